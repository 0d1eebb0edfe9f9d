/-
  The pure statement of SignatureOther: a signature verifies for another digest or key exactly if the exponents agree.
  Conditions: none beyond the row's own.
-/
import Derived.Test.YtijmmnlhbbmhlaaXAx6
import Derived.Test.YtijmmnlhbbmhlaaSig
namespace Go.Proofs.Ytijmmnlhbbmhlaa.Pure
set_option linter.unusedVariables false
open Go.Proofs.Ytijmmnlhbbmhlaa.Sig Go.RowKit Go.Proofs.Ytijmmnlhbbmhlaa.Ix Go.Proofs.Ytijmmnlhbbmhlaa.XA Go.Proofs.YtijmmnlhbbmhlaaW.PrintWords Go.Proofs.YtijmmnlhbbmhlaaW.PrintLast Go.Proofs.YtijmmnlhbbmhlaaW.PrintMore

theorem evg {α : Type} {g : Nat → Option α} {r : α} (h : Ev g r) : ∃ K, ∀ k, K ≤ k → g k = some r := h
/-- Challenges that differ make exponents that differ. -/
theorem same_iff (r key c e : Nat) (hk0 : 0 < key) (hk : key < 1073741789) (hc : c < 1073741789) (he : e < 1073741789) :
    ((c : Int) == (e : Int)) = true ↔ (r + key * c) % 1073741789 = (r + key * e) % 1073741789 := by
  rw [beq_iff_eq]
  constructor
  · intro h
    have : c = e := by omega
    rw [this]
  · intro h
    have hp : FM.Pr 1073741789 := FM.prQ
    have main : ∀ a b : Nat, a ≤ b → b < 1073741789 → (r + key * a) % 1073741789 = (r + key * b) % 1073741789 → a = b := by
      intro a b hab hb h
      have hd : 1073741789 ∣ (r + key * b) - (r + key * a) := Nat.dvd_of_mod_eq_zero (Nat.sub_mod_eq_zero_of_mod_eq h.symm)
      have e1 : (r + key * b) - (r + key * a) = key * (b - a) := by rw [Nat.mul_sub, Nat.add_sub_add_left]
      rw [e1] at hd
      rcases hp.euclid hd with h1 | h1
      · have := Nat.le_of_dvd hk0 h1
        exact absurd hk (Nat.not_lt.mpr this)
      · rcases Nat.eq_zero_or_pos (b - a) with h2 | h2
        · exact Nat.le_antisymm hab (Nat.le_of_sub_eq_zero h2)
        · have h3 := Nat.le_of_dvd h2 h1
          have h4 : b - a < 1073741789 := Nat.lt_of_le_of_lt (Nat.sub_le b a) hb
          exact absurd h4 (Nat.not_lt.mpr h3)
    rcases Nat.le_total c e with h1 | h1
    · rw [main c e h1 he h]
    · rw [main e c h1 hc h.symm]
theorem tmod_zero (x : Int) : (Int.tmod x 1073741789 = 0) ↔ x % 1073741789 = 0 := by
  rw [← Int.dvd_iff_tmod_eq_zero, Int.dvd_iff_emod_eq_zero]
theorem agree_iff (r key c key2 c2 : Nat) (hk : key < 1073741789) (hc : c < 1073741789) (hk2 : key2 < 1073741789) (hc2 : c2 < 1073741789) :
    (Int.tmod (wrap64 ((wrap64 ((c : Int) * (key : Int))) - (wrap64 ((c2 : Int) * (key2 : Int))))) 1073741789 == 0) = true ↔ (r + key2 * c2) % 1073741789 = (r + key * c) % 1073741789 := by
  have h1 : c * key ≤ 1073741789 * 1073741789 := Nat.mul_le_mul (Nat.le_of_lt hc) (Nat.le_of_lt hk)
  have h2 : c2 * key2 ≤ 1073741789 * 1073741789 := Nat.mul_le_mul (Nat.le_of_lt hc2) (Nat.le_of_lt hk2)
  rw [show (c : Int) * (key : Int) = ((c * key : Nat) : Int) by simp, show (c2 : Int) * (key2 : Int) = ((c2 * key2 : Nat) : Int) by simp, Nat.mul_comm key2, Nat.mul_comm key]
  generalize c * key = A at *
  generalize c2 * key2 = B at *
  rw [w64 (x := (A : Int)) (by omega) (by omega), w64 (x := (B : Int)) (by omega) (by omega), w64 (by omega) (by omega), beq_iff_eq, tmod_zero]
  omega

theorem SignatureOther : awardingbodylaw41_SignatureOther.Pure := by
  intro a0 a1 d0 d1 d2 d3 o0 o1 o2 o3 h0 h1 _ _ _ _ _ _ _ _
  have m0 := mod_f a0 1073741788 (wf64 h0) (by decide) (by decide)
  have m1 := mod_f a1 1073741788 (wf64 h1) (by decide) (by decide)
  obtain ⟨x, ex⟩ := Int.eq_ofNat_of_zero_le (show 0 ≤ a0 % 1073741788 by omega)
  obtain ⟨y, ey⟩ := Int.eq_ofNat_of_zero_le (show 0 ≤ a1 % 1073741788 by omega)
  have hx : x < 1073741788 := by omega
  have hy : y < 1073741788 := by omega
  rw [ex] at m0
  rw [ey] at m1
  clear ex ey h0 h1
  obtain ⟨key, ekey⟩ : ∃ key, key = 1 + x := ⟨_, rfl⟩
  obtain ⟨key2, ekey2⟩ : ∃ kk, kk = 1 + y := ⟨_, rfl⟩
  have wk : wrap64 (1 + (x : Int)) = (key : Int) := by rw [w64 (by omega) (by omega)]; omega
  have wk2 : wrap64 (1 + (y : Int)) = (key2 : Int) := by rw [w64 (by omega) (by omega)]; omega
  have hkey : key < 1073741789 := by omega
  have hkey2 : key2 < 1073741789 := by omega
  have hk0 : 0 < key := by omega
  have hk20 : 0 < key2 := by omega
  clear ekey ekey2
  obtain ⟨r, c, r0, r1, hc, hC, hS⟩ := sign_ev key d0 d1 d2 d3 hk0 hkey
  obtain ⟨e, he, hE⟩ := chal_ev (G r : Int) (G key : Int) o0 o1 o2 o3
  obtain ⟨c2, hc2, hC2⟩ := chal_ev (G r : Int) (G key2 : Int) d0 d1 d2 d3
  obtain ⟨K1, e1⟩ := evg <| public_ev key hk0 hkey
  obtain ⟨K2, e2⟩ := evg <| public_ev key2 hk20 hkey2
  obtain ⟨K3, e3⟩ := evg hS
  obtain ⟨K4, e4⟩ := evg hC
  obtain ⟨K5, e5⟩ := evg hE
  obtain ⟨K6, e6⟩ := evg hC2
  have hSl : (r + key * c) % 1073741789 < 1073741789 := Nat.mod_lt _ (by decide)
  have hSi : (((r + key * c) % 1073741789 : Nat) : Int) < 1073741789 := Int.ofNat_lt.mpr hSl
  have hS0 : (0 : Int) ≤ (((r + key * c) % 1073741789 : Nat) : Int) := Int.natCast_nonneg _
  obtain ⟨K7, e7⟩ := evg <| verify_G key r (((r + key * c) % 1073741789 : Nat) : Int) o0 o1 o2 o3 e he hE ((c : Int) == (e : Int)) (by
    rw [same_iff r key c e hk0 hkey hc he, Int.toNat_natCast]
    exact ⟨fun h => ⟨hS0, hSi, h⟩, fun h => h.2.2⟩)
  obtain ⟨K8, e8⟩ := evg <| verify_G key2 r (((r + key * c) % 1073741789 : Nat) : Int) d0 d1 d2 d3 c2 hc2 hC2 (Int.tmod (wrap64 ((wrap64 ((c : Int) * (key : Int))) - (wrap64 ((c2 : Int) * (key2 : Int))))) 1073741789 == 0) (by
    rw [agree_iff r key c key2 c2 hkey hc hkey2 hc2, Int.toNat_natCast]
    exact ⟨fun h => ⟨hS0, hSi, h.symm⟩, fun h => h.2.2.symm⟩)
  obtain ⟨K9, e9⟩ := evg sane_ev
  refine ⟨K1 + K2 + K3 + K4 + K5 + K6 + K7 + K8 + K9 + 1, ?_⟩
  have l1 : K1 ≤ K1 + K2 + K3 + K4 + K5 + K6 + K7 + K8 + K9 + 1 := by omega
  have l2 : K2 ≤ K1 + K2 + K3 + K4 + K5 + K6 + K7 + K8 + K9 + 1 := by omega
  have l3 : K3 ≤ K1 + K2 + K3 + K4 + K5 + K6 + K7 + K8 + K9 + 1 := by omega
  have l4 : K4 ≤ K1 + K2 + K3 + K4 + K5 + K6 + K7 + K8 + K9 := by omega
  have l5 : K5 ≤ K1 + K2 + K3 + K4 + K5 + K6 + K7 + K8 + K9 := by omega
  have l6 : K6 ≤ K1 + K2 + K3 + K4 + K5 + K6 + K7 + K8 + K9 := by omega
  have l7 : K7 ≤ K1 + K2 + K3 + K4 + K5 + K6 + K7 + K8 + K9 := by omega
  have l8 : K8 ≤ K1 + K2 + K3 + K4 + K5 + K6 + K7 + K8 + K9 := by omega
  have l9 : K9 ≤ K1 + K2 + K3 + K4 + K5 + K6 + K7 + K8 + K9 := by omega
  generalize K1 + K2 + K3 + K4 + K5 + K6 + K7 + K8 + K9 = K at *
  unfold awardingbodylaw41_SignatureOther.f
  rw [m0, Option.bind_some, m1, Option.bind_some, wk, wk2, e1 _ l1, Option.bind_some, e2 _ l2, Option.bind_some, e3 _ l3, Option.bind_some, if_pos rfl, if_pos rfl]
  rw [awardingbodylaw41_SignatureOther.j0, if_neg (show ¬ ((0 : Int) != 0) = true by decide), e4 _ l4, Option.bind_some, e5 _ l5, Option.bind_some, Option.bind_some, e6 _ l6, Option.bind_some]
  rw [e7 _ l7, Option.bind_some, if_pos (by rw [beq_self_eq_true]), e8 _ l8, Option.bind_some, if_pos (by rw [beq_self_eq_true]), e9 _ l9, Option.bind_some]
end Go.Proofs.Ytijmmnlhbbmhlaa.Pure
