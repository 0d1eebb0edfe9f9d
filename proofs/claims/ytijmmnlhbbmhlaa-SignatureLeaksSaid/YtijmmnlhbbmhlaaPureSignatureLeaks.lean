/-
  The pure statement of SignatureLeaks: two signatures with one R and different challenges tell the key.
  Conditions: none beyond the row's own.
-/
import Derived.Test.YtijmmnlhbbmhlaaXAx4
import Derived.Test.YtijmmnlhbbmhlaaSig
namespace Go.Proofs.Ytijmmnlhbbmhlaa.Pure
set_option linter.unusedVariables false
open Go.Proofs.Ytijmmnlhbbmhlaa.Sig Go.RowKit Go.Proofs.Ytijmmnlhbbmhlaa.Ix Go.Proofs.Ytijmmnlhbbmhlaa.XA Go.Proofs.YtijmmnlhbbmhlaaW.PrintWords Go.Proofs.YtijmmnlhbbmhlaaW.PrintLast Go.Proofs.YtijmmnlhbbmhlaaW.PrintMore
theorem evg {α : Type} {g : Nat → Option α} {r : α} (h : Ev g r) : ∃ K, ∀ k, K ≤ k → g k = some r := h

theorem mulQ {a b : Nat} (ha : a < 1073741789) (hb : b < 1073741789) : Int.tmod (wrap64 ((a : Int) * (b : Int))) 1073741789 = ((a * b % 1073741789 : Nat) : Int) := by
  have h : a * b ≤ 1073741789 * 1073741789 := Nat.mul_le_mul (by omega) (by omega)
  have e : (a : Int) * (b : Int) = ((a * b : Nat) : Int) := by simp
  rw [e, w64 (by omega) (by omega), Int.tmod_eq_emod_of_nonneg (by omega)]
  omega
theorem half (n : Nat) (h : n < 4611686018427387904) : wrap64 (Int.tdiv (n : Int) 2) = ((n / 2 : Nat) : Int) := by
  rw [Int.tdiv_eq_ediv_of_nonneg (by omega), w64 (by omega) (by omega)]
  omega
theorem odd (n : Nat) : Int.tmod (n : Int) 2 = ((n % 2 : Nat) : Int) := by
  rw [Int.tmod_eq_emod_of_nonneg (by omega)]
  omega
theorem leaks_l0 (key num : Nat) (hn : num < 1073741789) : ∀ (d n inv x : Nat), inv < 1073741789 → x < 1073741789 → n < 2 ^ d → d ≤ 62 → num * (inv * x ^ n % 1073741789) % 1073741789 = key →
    Ev (fun k => awardingbodylaw41_SignatureLeaks.l0 k (key : Int) (num : Int) (inv : Int) (x : Int) (n : Int)) true := by
  intro d
  have fin : ∀ (inv x : Nat), inv < 1073741789 → num * inv % 1073741789 = key → Ev (fun k => awardingbodylaw41_SignatureLeaks.l0 k (key : Int) (num : Int) (inv : Int) (x : Int) ((0 : Nat) : Int)) true := by
    intro inv x hi hk
    refine Ev.step (f := fun k => (awardingbodylaw41_sane.f k).bind fun t => some t) (fun k => ?_) (Ev.bind (f := fun _ (t : Bool) => some t) sane_ev (Ev.now true))
    rw [awardingbodylaw41_SignatureLeaks.l0, if_neg (by decide), mulQ hn hi, hk, if_pos rfl]
  induction d with
  | zero =>
    intro n inv x hi hx hnd _ hk
    have : n = 0 := by simpa using hnd
    subst this
    rw [Nat.pow_zero, Nat.mul_one, Nat.mod_eq_of_lt hi] at hk
    exact fin inv x hi hk
  | succ d ih =>
    intro n inv x hi hx hnd hd hk
    rcases Nat.eq_zero_or_pos n with h0 | h0
    · subst h0
      rw [Nat.pow_zero, Nat.mul_one, Nat.mod_eq_of_lt hi] at hk
      exact fin inv x hi hk
    · have h62 : 2 ^ (d + 1) ≤ 2 ^ 62 := Nat.pow_le_pow_right (by decide) hd
      have hN2 : n / 2 < 2 ^ d := by rw [Nat.pow_succ] at hnd; omega
      have hxx : x * x % 1073741789 < 1073741789 := Nat.mod_lt _ (by decide)
      rcases Nat.mod_two_eq_zero_or_one n with h | h
      · have hk' : num * (inv * (x * x % 1073741789) ^ (n / 2) % 1073741789) % 1073741789 = key := by
          rw [step_even, show 2 * (n / 2) = n by omega]; exact hk
        refine Ev.step (fun k => ?_) (ih (n / 2) inv (x * x % 1073741789) hi hxx hN2 (by omega) hk')
        rw [awardingbodylaw41_SignatureLeaks.l0, if_pos (by omega), odd, h, if_neg (by decide), mulQ hx hx, half n (by omega)]
      · have hk' : num * ((inv * x % 1073741789) * (x * x % 1073741789) ^ (n / 2) % 1073741789) % 1073741789 = key := by
          rw [step_odd, show 2 * (n / 2) + 1 = n by omega]; exact hk
        refine Ev.step (fun k => ?_) (ih (n / 2) (inv * x % 1073741789) (x * x % 1073741789) (Nat.mod_lt _ (by decide)) hxx hN2 (by omega) hk')
        rw [awardingbodylaw41_SignatureLeaks.l0, if_pos (by omega), odd, h, if_pos (by decide), mulQ hi hx, mulQ hx hx, half n (by omega)]
theorem fermatQ : ∃ m : Nat, m = 1073741787 ∧ ∀ X : Nat, 0 < X → X < 1073741789 → X ^ (m + 1) % 1073741789 = 1 := by
  have hp : FM.Pr 1073741789 := FM.prQ
  obtain ⟨m, hm⟩ : ∃ m, 1073741789 - 1 = m + 1 := ⟨1073741787, by decide⟩
  refine ⟨m, by omega, fun X h0 h1 => ?_⟩
  rw [← hm]
  refine FM.fermat' hp X fun hd => ?_
  have := Nat.le_of_dvd h0 hd
  omega
theorem emodw (x : Int) (h0 : -9223372036854775808 ≤ x) (h1 : x ≤ 9223372036854775807) : awardingbodymark_Mod.f (wrap64 x) 1073741789 = some (x % 1073741789) := by
  rw [w64 h0 h1]
  exact mod_f x 1073741789 ⟨h0, h1⟩ (by decide) (by decide)
theorem sumw (k c key : Nat) (hk : k < 1073741789) (hc : c < 1073741789) (hy : key < 1073741789) : Int.tmod (wrap64 ((k : Int) + wrap64 ((c : Int) * (key : Int)))) 1073741789 = (((k + key * c) % 1073741789 : Nat) : Int) := by
  have hm : c * key ≤ 1073741789 * 1073741789 := Nat.mul_le_mul (by omega) (by omega)
  rw [show (c : Int) * (key : Int) = ((c * key : Nat) : Int) by simp, w64 (x := ((c * key : Nat) : Int)) (by omega) (by omega), w64 (by omega) (by omega), Int.tmod_eq_emod_of_nonneg (by omega), Nat.mul_comm key c]
  omega
/-- (a - b) / (c - f) is the key. -/
theorem quotient (k c f key : Nat) (hc : c < 1073741789) (hf : f < 1073741789) (hy : key < 1073741789) (hne : c ≠ f) (num den : Nat)
    (hnum : (((k + key * c) % 1073741789 : Nat) : Int) - (((k + key * f) % 1073741789 : Nat) : Int) = (num : Int) + 1073741789 * ((((((k + key * c) % 1073741789 : Nat) : Int) - (((k + key * f) % 1073741789 : Nat) : Int))) / 1073741789))
    (hden : (c : Int) - (f : Int) = (den : Int) + 1073741789 * (((c : Int) - (f : Int)) / 1073741789)) (hdl : den < 1073741789) (hd0 : 0 < den) (m : Nat) (hm : den ^ (m + 1) % 1073741789 = 1) :
    num * (1 * den ^ m % 1073741789) % 1073741789 = key := by
  have key1 : ∃ z : Int, (num : Int) = (den : Int) * (key : Int) + 1073741789 * z := by
    have e1 := Nat.div_add_mod (k + key * c) 1073741789
    have e2 := Nat.div_add_mod (k + key * f) 1073741789
    generalize (k + key * c) % 1073741789 = A at *
    generalize (k + key * f) % 1073741789 = B at *
    generalize (k + key * c) / 1073741789 = qa at *
    generalize (k + key * f) / 1073741789 = qb at *
    generalize ((A : Int) - (B : Int)) / 1073741789 = qn at *
    generalize ((c : Int) - (f : Int)) / 1073741789 = qd at *
    have e1' : (1073741789 : Int) * (qa : Int) + (A : Int) = (k : Int) + ((key * c : Nat) : Int) := by omega
    have e2' : (1073741789 : Int) * (qb : Int) + (B : Int) = (k : Int) + ((key * f : Nat) : Int) := by omega
    rw [Int.natCast_mul] at e1' e2'
    refine ⟨qd * (key : Int) - (qa : Int) + (qb : Int) - qn, ?_⟩
    have hd : (den : Int) = (c : Int) - (f : Int) - 1073741789 * qd := by omega
    have hn : (num : Int) = (A : Int) - (B : Int) - 1073741789 * qn := by omega
    have hA : (A : Int) = (k : Int) + (key : Int) * (c : Int) - 1073741789 * (qa : Int) := by omega
    have hB : (B : Int) = (k : Int) + (key : Int) * (f : Int) - 1073741789 * (qb : Int) := by omega
    rw [hn, hA, hB, hd]
    grind
  obtain ⟨z, hz⟩ := key1
  have hmod : num % 1073741789 = (den * key) % 1073741789 := by
    have hz' : (num : Int) = ((den * key : Nat) : Int) + 1073741789 * z := by rw [Int.natCast_mul]; exact hz
    omega
  rw [Nat.one_mul, Nat.mul_mod, Nat.mod_mod, hmod, ← Nat.mul_mod]
  have e : den * key * den ^ m = key * den ^ (m + 1) := by rw [Nat.pow_succ]; grind
  rw [e, Nat.mul_mod, hm, Nat.mul_one, Nat.mod_mod, Nat.mod_eq_of_lt hy]

theorem leaks_j0 (kk key c f A B : Nat) (hA : A = (kk + key * c) % 1073741789) (hB : B = (kk + key * f) % 1073741789) (hc : c < 1073741789) (hf : f < 1073741789) (hkey : key < 1073741789)
    (hAi : (A : Int) < 1073741789) (hBi : (B : Int) < 1073741789) (hA0 : (0 : Int) ≤ (A : Int)) (hB0 : (0 : Int) ≤ (B : Int)) :
    Ev (fun k => awardingbodylaw41_SignatureLeaks.j0 k (key : Int) (c : Int) (f : Int) (A : Int) (B : Int) false) true := by
  by_cases hcf : c = f
  · subst hcf
    refine Ev.step (f := fun k => (awardingbodylaw41_sane.f k).bind fun t => some t) (fun k => ?_) (Ev.bind (f := fun _ (t : Bool) => some t) sane_ev (Ev.now true))
    rw [awardingbodylaw41_SignatureLeaks.j0, if_neg (by decide), if_pos rfl]
  · obtain ⟨num, enum⟩ := Int.eq_ofNat_of_zero_le (Int.emod_nonneg ((A : Int) - (B : Int)) (show (1073741789 : Int) ≠ 0 by decide))
    obtain ⟨den, eden⟩ := Int.eq_ofNat_of_zero_le (Int.emod_nonneg ((c : Int) - (f : Int)) (show (1073741789 : Int) ≠ 0 by decide))
    have hnl : num < 1073741789 := by have := Int.emod_lt_of_pos ((A : Int) - (B : Int)) (show (0 : Int) < 1073741789 by decide); omega
    have hdl : den < 1073741789 := by omega
    have hd0 : 0 < den := by omega
    obtain ⟨m, hm, hFm⟩ := fermatQ
    have hq := quotient kk c f key hc hf hkey hcf num den (by rw [← hA, ← hB, ← enum]; have := Int.emod_add_mul_ediv ((A : Int) - (B : Int)) 1073741789; exact this.symm) (by rw [← eden]; have := Int.emod_add_mul_ediv ((c : Int) - (f : Int)) 1073741789; exact this.symm) hdl hd0 m (hFm den hd0 hdl)
    have hl := leaks_l0 key num hnl 62 m 1 den (by decide) hdl (by omega) (by decide) hq
    refine Ev.step (fun k => ?_) hl
    rw [awardingbodylaw41_SignatureLeaks.j0, if_neg (by decide), if_neg (by omega), emodw _ (by omega) (by omega), Option.bind_some, emodw _ (by omega) (by omega), Option.bind_some, enum, eden, show (1073741787 : Int) = (m : Int) by omega]
    rfl

theorem SignatureLeaks : awardingbodylaw41_SignatureLeaks.Pure := by
  intro a0 a1 d0 d1 d2 d3 o0 o1 o2 o3 h0 h1 _ _ _ _ _ _ _ _
  have m0 := mod_f a0 1073741788 (wf64 h0) (by decide) (by decide)
  have m1 := mod_f a1 1073741788 (wf64 h1) (by decide) (by decide)
  obtain ⟨x, ex⟩ := Int.eq_ofNat_of_zero_le (show 0 ≤ a0 % 1073741788 by omega)
  obtain ⟨r, er⟩ := Int.eq_ofNat_of_zero_le (show 0 ≤ a1 % 1073741788 by omega)
  have hx : x < 1073741788 := by omega
  have hr : r < 1073741788 := by omega
  rw [ex] at m0
  rw [er] at m1
  clear ex er h0 h1
  obtain ⟨key, ekey⟩ : ∃ key, key = 1 + x := ⟨_, rfl⟩
  obtain ⟨kk, ekk⟩ : ∃ kk, kk = 1 + r := ⟨_, rfl⟩
  have wk : wrap64 (1 + (x : Int)) = (key : Int) := by rw [w64 (by omega) (by omega)]; omega
  have wr : wrap64 (1 + (r : Int)) = (kk : Int) := by rw [w64 (by omega) (by omega)]; omega
  have hkey : key < 1073741789 := by omega
  have hkk : kk < 1073741789 := by omega
  obtain ⟨c, hc, hC⟩ := chal_ev (G kk : Int) (G key : Int) d0 d1 d2 d3
  obtain ⟨f, hf, hF⟩ := chal_ev (G kk : Int) (G key : Int) o0 o1 o2 o3
  obtain ⟨K1, e1⟩ := evg <| public_ev key (by omega) hkey
  obtain ⟨K2, e2⟩ := evg <| power_ev 4 kk (by decide) (by omega)
  obtain ⟨K3, e3⟩ := evg hC
  obtain ⟨K4, e4⟩ := evg hF
  have sc := sumw kk c key hkk hc hkey
  have sf := sumw kk f key hkk hf hkey
  have hAl : (kk + key * c) % 1073741789 < 1073741789 := Nat.mod_lt _ (by decide)
  have hBl : (kk + key * f) % 1073741789 < 1073741789 := Nat.mod_lt _ (by decide)
  obtain ⟨K5, e5⟩ := evg <| verify_G key kk (((kk + key * c) % 1073741789 : Nat) : Int) d0 d1 d2 d3 c hc hC true ⟨fun _ => ⟨Int.natCast_nonneg _, Int.ofNat_lt.mpr hAl, Int.toNat_natCast _⟩, fun _ => rfl⟩
  obtain ⟨K6, e6⟩ := evg <| verify_G key kk (((kk + key * f) % 1073741789 : Nat) : Int) o0 o1 o2 o3 f hf hF true ⟨fun _ => ⟨Int.natCast_nonneg _, Int.ofNat_lt.mpr hBl, Int.toNat_natCast _⟩, fun _ => rfl⟩
  have hAi : (((kk + key * c) % 1073741789 : Nat) : Int) < 1073741789 := Int.ofNat_lt.mpr hAl
  have hBi : (((kk + key * f) % 1073741789 : Nat) : Int) < 1073741789 := Int.ofNat_lt.mpr hBl
  have hA0 : (0 : Int) ≤ (((kk + key * c) % 1073741789 : Nat) : Int) := Int.natCast_nonneg _
  have hB0 : (0 : Int) ≤ (((kk + key * f) % 1073741789 : Nat) : Int) := Int.natCast_nonneg _
  have hJ := leaks_j0 kk key c f _ _ rfl rfl hc hf hkey hAi hBi hA0 hB0
  obtain ⟨K7, e7⟩ := evg hJ
  refine ⟨K1 + K2 + K3 + K4 + K5 + K6 + K7, ?_⟩
  simp only [awardingbodylaw41_SignatureLeaks.f]
  rw [m0, Option.bind_some, m1, Option.bind_some, wk, wr, e1 _ (by omega), Option.bind_some, show (4 : Int) = ((4 : Nat) : Int) from rfl, e2 _ (by omega), Option.bind_some]
  have hG : ((4 ^ kk % 2147483579 : Nat) : Int) = (G kk : Int) := rfl
  rw [hG, e3 _ (by omega), Option.bind_some, e4 _ (by omega), Option.bind_some, if_pos rfl, sc, sf, e5 _ (by omega), Option.bind_some, if_pos rfl, e6 _ (by omega), Option.bind_some]
  exact e7 _ (by omega)
end Go.Proofs.Ytijmmnlhbbmhlaa.Pure
