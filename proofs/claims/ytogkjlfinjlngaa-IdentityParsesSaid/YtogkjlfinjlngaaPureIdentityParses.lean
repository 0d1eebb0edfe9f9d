/-
  The pure statement of one law of chapter 4. Conditions: those in the statement.
-/
import Derived.Test.YtogkjlfinjlngaaXAx7
import Derived.Test.YtogkjlfinjlngaaNumB
namespace Go.Proofs.Ytogkjlfinjlngaa.Pure
open Go.RowKit Go.Proofs.Ytogkjlfinjlngaa.XA Go.Proofs.Ytogkjlfinjlngaa.Num Go.Proofs.YtogkjlfinjlngaaW.PrintWords Go.Proofs.YtogkjlfinjlngaaW.PrintLast

theorem IdentityParses : awardingbodylaw04_IdentityParses.Pure := by
  intro a0 a1 a2 a3 hz h1 h2 h3
  refine ⟨60, ?_⟩
  unfold awardingbodylaw04_IdentityParses.f
  obtain ⟨r, hr, -⟩ := parse_any a0
  obtain ⟨e1, e2⟩ := hr 60 (Nat.le_refl 60)
  rw [e1, Option.bind_some, e2, Option.bind_some, number_ok (wf64 h1) (Nat.le_refl 60), Option.bind_some, cut_ok (n := 9) (by omega) (by omega) (wf64 h2), Option.bind_some]
  have hm : 0 ≤ a2 % 9 ∧ a2 % 9 < 9 := by omega
  generalize a2 % 9 = t at hm ⊢
  obtain ⟨r', hr', -⟩ := parse_any ((((fm (nc a1) (ny a1) (nn a1)).extract 0 t.toNat) ++ (strOfNums [a3])) ++ ((fm (nc a1) (ny a1) (nn a1)).extract (t + 1).toNat (fm (nc a1) (ny a1) (nn a1)).size))
  obtain ⟨e3, e4⟩ := hr' 60 (Nat.le_refl 60)
  have hs1 : (strOfNums [a3]).size = 1 := by rw [strOfNums_size]; rfl
  rw [w64 (by omega) (by omega)]
  rw [fm_size] at *
  rw [if_pos (by omega), if_pos (by omega), Option.bind_some, hs1, if_pos (by omega), if_pos (by omega), if_pos (by omega), if_pos (by omega), e3, Option.bind_some, e4, Option.bind_some]
  simp only [beq_self_eq_true, Bool.and_self, if_true, awake_ok (Nat.le_refl 60), Option.bind_some]
end Go.Proofs.Ytogkjlfinjlngaa.Pure
