/-
  The pure statement of SignatureHolds: what is signed verifies, and with another S it does not.
  Conditions: none beyond the row's own.
-/
import Derived.Test.YtijmmnlhbbmhlaaXAx5
import Derived.Test.YtijmmnlhbbmhlaaSig
namespace Go.Proofs.Ytijmmnlhbbmhlaa.Pure
set_option linter.unusedVariables false
open Go.Proofs.Ytijmmnlhbbmhlaa.Sig Go.RowKit Go.Proofs.Ytijmmnlhbbmhlaa.Ix Go.Proofs.Ytijmmnlhbbmhlaa.XA Go.Proofs.YtijmmnlhbbmhlaaW.PrintWords Go.Proofs.YtijmmnlhbbmhlaaW.PrintLast Go.Proofs.YtijmmnlhbbmhlaaW.PrintMore

theorem evg {α : Type} {g : Nat → Option α} {r : α} (h : Ev g r) : ∃ K, ∀ k, K ≤ k → g k = some r := h

theorem SignatureHolds : awardingbodylaw41_SignatureHolds.Pure := by
  intro a0 d0 d1 d2 d3 a2 h0 u0 u1 u2 u3 h2
  have m0 := mod_f a0 1073741788 (wf64 h0) (by decide) (by decide)
  have m1 := mod_f a2 1073741788 (wf64 h2) (by decide) (by decide)
  obtain ⟨x, ex⟩ := Int.eq_ofNat_of_zero_le (show 0 ≤ a0 % 1073741788 by omega)
  obtain ⟨n, en⟩ := Int.eq_ofNat_of_zero_le (show 0 ≤ a2 % 1073741788 by omega)
  have hx : x < 1073741788 := by omega
  have hn : n < 1073741788 := by omega
  rw [ex] at m0
  rw [en] at m1
  obtain ⟨r, c, r0, r1, hc, hC, hS⟩ := sign_ev (1 + x) d0 d1 d2 d3 (by omega) (by omega)
  obtain ⟨S, eS⟩ : ∃ S, S = (r + (1 + x) * c) % 1073741789 := ⟨_, rfl⟩
  have hSl : S < 1073741789 := by rw [eS]; exact Nat.mod_lt _ (by decide)
  rw [← eS] at hS
  obtain ⟨K1, e1⟩ := evg <| public_ev (1 + x) (by omega) (by omega)
  obtain ⟨K2, e2⟩ := evg <| hS
  obtain ⟨K3, e3⟩ := evg <| verify_G (1 + x) r (S : Int) d0 d1 d2 d3 c hc hC true (by simp; exact ⟨by omega, eS⟩)
  obtain ⟨T, eT⟩ : ∃ T, T = (S + 1 + n) % 1073741789 := ⟨_, rfl⟩
  obtain ⟨K4, e4⟩ := evg <| verify_G (1 + x) r (T : Int) d0 d1 d2 d3 c hc hC false (by simp; intro _; rw [← eS]; omega)
  obtain ⟨K5, e5⟩ := evg <| verify_G (1 + x) r ((S + 1073741789 : Nat) : Int) d0 d1 d2 d3 c hc hC false (by
    constructor
    · intro h; cases h
    · rintro ⟨_, h, _⟩; omega)
  obtain ⟨K6, e6⟩ := evg <| sane_ev
  have w1 : wrap64 (1 + (x : Int)) = ((1 + x : Nat) : Int) := by rw [w64 (by omega) (by omega)]; omega
  have w2 : Int.tmod (wrap64 ((wrap64 ((S : Int) + 1)) + (n : Int))) 1073741789 = (T : Int) := by
    rw [w64 (x := (S : Int) + 1) (by omega) (by omega), w64 (by omega) (by omega), Int.tmod_eq_emod_of_nonneg (by omega)]; omega
  have w3 : wrap64 ((S : Int) + 1073741789) = ((S + 1073741789 : Nat) : Int) := by rw [w64 (by omega) (by omega)]; omega
  refine ⟨K1 + K2 + K3 + K4 + K5 + K6 + 1, ?_⟩
  simp only [awardingbodylaw41_SignatureHolds.f]
  rw [m0]
  rw [Option.bind_some]
  rw [w1, e1 _ (by omega), Option.bind_some, e2 _ (by omega), Option.bind_some, if_pos rfl, if_pos rfl, e3 _ (by omega), Option.bind_some]
  rw [awardingbodylaw41_SignatureHolds.j0, if_neg (by decide), m1, Option.bind_some, w2, w3, e4 _ (by omega), Option.bind_some, if_neg (by decide), e5 _ (by omega), Option.bind_some, if_neg (by decide), e6 _ (by omega), Option.bind_some]
end Go.Proofs.Ytijmmnlhbbmhlaa.Pure
