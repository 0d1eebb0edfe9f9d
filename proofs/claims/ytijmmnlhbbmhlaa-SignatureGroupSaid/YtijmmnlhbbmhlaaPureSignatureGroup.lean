/-
  The pure statement of SignatureGroup: laws of powers modulo 2147483579.
  Conditions: none beyond the row's own.
-/
import Derived.Test.YtijmmnlhbbmhlaaXAx3
import Derived.Test.YtijmmnlhbbmhlaaSig
namespace Go.Proofs.Ytijmmnlhbbmhlaa.Pure
set_option linter.unusedVariables false
open Go.Proofs.Ytijmmnlhbbmhlaa.Sig Go.RowKit Go.Proofs.Ytijmmnlhbbmhlaa.Ix Go.Proofs.Ytijmmnlhbbmhlaa.XA Go.Proofs.YtijmmnlhbbmhlaaW.PrintWords Go.Proofs.YtijmmnlhbbmhlaaW.PrintLast Go.Proofs.YtijmmnlhbbmhlaaW.PrintMore

theorem evg {α : Type} {g : Nat → Option α} {r : α} (h : Ev g r) : ∃ K, ∀ k, K ≤ k → g k = some r := h

theorem fermatP : ∃ m : Nat, m = 2147483578 ∧ ∀ X : Nat, 0 < X → X < 2147483579 → X ^ m % 2147483579 = 1 := by
  have hp : FM.Pr 2147483579 := FM.prP
  refine ⟨2147483579 - 1, by decide, fun X h0 h1 => FM.fermat' hp X fun hd => ?_⟩
  have := Nat.le_of_dvd h0 hd
  omega
theorem G_per (N : Nat) : 4 ^ (N + Qn) % 2147483579 = 4 ^ N % 2147483579 := by
  have h := G_add N Qn
  rw [G_Q, Nat.mul_one, Nat.mod_eq_of_lt (G_lt N)] at h
  unfold G at h
  exact h

theorem addw (N M : Nat) (hN : N < 268435456) (hM : M < 268435456) : wrap64 ((N : Int) + (M : Int)) = ((N + M : Nat) : Int) := by rw [w64 (by omega) (by omega)]; omega
theorem mulw (N M : Nat) (hNM : N * M ≤ 268435456 * 268435456) : wrap64 ((N : Int) * (M : Int)) = ((N * M : Nat) : Int) := by
  rw [show (N : Int) * (M : Int) = ((N * M : Nat) : Int) by simp, w64 (by omega) (by omega)]
theorem addq (N : Nat) (hN : N < 268435456) : wrap64 ((N : Int) + 1073741789) = ((N + Qn : Nat) : Int) := by rw [w64 (by omega) (by omega), Qn_eq]; omega

theorem SignatureGroup : awardingbodylaw41_SignatureGroup.Pure := by
  intro a0 a1 a2 h0 h1 h2
  have m0 := mod_f a0 2147483579 (wf64 h0) (by decide) (by decide)
  have m1 := mod_f a1 268435456 (wf64 h1) (by decide) (by decide)
  have m2 := mod_f a2 268435456 (wf64 h2) (by decide) (by decide)
  obtain ⟨X, eX⟩ := Int.eq_ofNat_of_zero_le (show 0 ≤ a0 % 2147483579 by omega)
  obtain ⟨N, eN⟩ := Int.eq_ofNat_of_zero_le (show 0 ≤ a1 % 268435456 by omega)
  obtain ⟨M, eM⟩ := Int.eq_ofNat_of_zero_le (show 0 ≤ a2 % 268435456 by omega)
  have hX : X < 2147483579 := by omega
  have hN : N < 268435456 := by omega
  have hM : M < 268435456 := by omega
  rw [eX] at m0
  rw [eN] at m1
  rw [eM] at m2
  have hNM : N * M ≤ 268435456 * 268435456 := Nat.mul_le_mul (by omega) (by omega)
  obtain ⟨K1, e1⟩ := evg <| power_ev X N hX (by omega)
  obtain ⟨K2, e2⟩ := evg <| power_ev X M hX (by omega)
  obtain ⟨K3, e3⟩ := evg <| power_ev X (N + M) hX (by omega)
  obtain ⟨K4, e4⟩ := evg <| power_ev (X ^ N % 2147483579) M (Nat.mod_lt _ (by decide)) (by omega)
  obtain ⟨K5, e5⟩ := evg <| power_ev X (N * M) hX (by omega)
  obtain ⟨K6, e6⟩ := evg <| power_ev 4 (N + Qn) (by decide) (by rw [Qn_eq]; omega)
  obtain ⟨K7, e7⟩ := evg <| power_ev 4 N (by decide) (by omega)
  obtain ⟨m, hm, hF⟩ := fermatP
  obtain ⟨K8, e8⟩ := evg <| power_ev X m hX (by omega)
  obtain ⟨K9, e9⟩ := evg <| sane_ev
  have w1 := addw N M hN hM
  have w2 := mulw N M hNM
  have w3 := addq N hN
  refine ⟨K1 + K2 + K3 + K4 + K5 + K6 + K7 + K8 + K9, ?_⟩
  simp only [awardingbodylaw41_SignatureGroup.f]
  rw [m0, Option.bind_some, m1, Option.bind_some, m2, Option.bind_some, e1 _ (by omega), Option.bind_some, e2 _ (by omega), Option.bind_some, w1, e3 _ (by omega), Option.bind_some]
  have c1 : ((X ^ (N + M) % 2147483579 : Nat) : Int) = Int.tmod (wrap64 (((X ^ N % 2147483579 : Nat) : Int) * ((X ^ M % 2147483579 : Nat) : Int))) 2147483579 := by
    rw [mulP (Nat.mod_lt _ (by decide)) (Nat.mod_lt _ (by decide)), ← Nat.mul_mod, ← Nat.pow_add]
  have c2 : (((X ^ N % 2147483579) ^ M % 2147483579 : Nat) : Int) = ((X ^ (N * M) % 2147483579 : Nat) : Int) := by
    rw [← Nat.pow_mod, ← Nat.pow_mul]
  have c3 : ((4 ^ (N + Qn) % 2147483579 : Nat) : Int) = ((4 ^ N % 2147483579 : Nat) : Int) := by rw [G_per]
  rw [if_pos c1, e4 _ (by omega), Option.bind_some, w2, e5 _ (by omega), Option.bind_some, if_pos c2, w3, show ((4 : Int)) = ((4 : Nat) : Int) from rfl, e6 _ (by omega), Option.bind_some, e7 _ (by omega), Option.bind_some, if_pos c3]
  rcases Nat.eq_zero_or_pos X with hz | hz
  · rw [if_pos (by omega), e9 _ (by omega), Option.bind_some]
  · rw [if_neg (by omega), show (2147483578 : Int) = (m : Int) by omega, e8 _ (by omega), Option.bind_some, hF X hz hX, if_pos (by decide), e9 _ (by omega), Option.bind_some]
end Go.Proofs.Ytijmmnlhbbmhlaa.Pure
