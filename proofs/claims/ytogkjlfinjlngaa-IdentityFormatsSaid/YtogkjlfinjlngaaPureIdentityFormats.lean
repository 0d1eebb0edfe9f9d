/-
  The pure statement of one law of chapter 4. Conditions: those in the statement.
-/
import Derived.Test.YtogkjlfinjlngaaXAx5
import Derived.Test.YtogkjlfinjlngaaNumB
namespace Go.Proofs.Ytogkjlfinjlngaa.Pure
open Go.RowKit Go.Proofs.Ytogkjlfinjlngaa.XA Go.Proofs.Ytogkjlfinjlngaa.Num Go.Proofs.YtogkjlfinjlngaaW.PrintWords Go.Proofs.YtogkjlfinjlngaaW.PrintLast

theorem IdentityFormats : awardingbodylaw04_IdentityFormats.Pure := by
  intro a0 a1 a2 h0 h1 h2
  refine ⟨60, ?_⟩
  unfold awardingbodylaw04_IdentityFormats.f
  simp only [cut_ok (n := 101) (by omega) (by omega) (wf64 h0), cut_ok (n := 101) (by omega) (by omega) (wf64 h1), cut_ok (n := 10001) (by omega) (by omega) (wf64 h2), iformat _ _ _ (Nat.le_refl 60), rformat _ _ _ (Nat.le_refl 60), valid_of, rvalid_of, awake_ok (Nat.le_refl 60), Option.bind_some, if_true, beq_self_eq_true]
end Go.Proofs.Ytogkjlfinjlngaa.Pure
