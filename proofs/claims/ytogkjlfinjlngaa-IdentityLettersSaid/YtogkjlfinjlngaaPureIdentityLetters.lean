/-
  The pure statement of one law of chapter 4. Conditions: those in the statement.
-/
import Derived.Test.YtogkjlfinjlngaaXAx9
import Derived.Test.YtogkjlfinjlngaaNumC
namespace Go.Proofs.Ytogkjlfinjlngaa.Pure
open Go.RowKit Go.Proofs.Ytogkjlfinjlngaa.XA Go.Proofs.Ytogkjlfinjlngaa.Num Go.Proofs.YtogkjlfinjlngaaW.PrintWords Go.Proofs.YtogkjlfinjlngaaW.PrintLast

theorem IdentityLetters : awardingbodylaw04_IdentityLetters.Pure := by
  intro a0 a1 hz h1
  refine ⟨60, ?_⟩
  unfold awardingbodylaw04_IdentityLetters.f
  obtain ⟨r, hr⟩ := letter_any a0 hz
  obtain ⟨e1, e2⟩ := hr 60 (Nat.le_refl 60)
  obtain ⟨r', hr'⟩ := letter_any ((fm (nc a1) (ny a1) (nn a1)).extract 0 8) (by rw [ByteArray.size_extract, fm_size]; omega)
  obtain ⟨e3, e4⟩ := hr' 60 (Nat.le_refl 60)
  rw [e1, Option.bind_some, e2, Option.bind_some, number_ok (wf64 h1) (Nat.le_refl 60), Option.bind_some, fm_size, if_pos (by omega), if_pos (by omega), e3, Option.bind_some, e4, Option.bind_some]
  simp only [if_true, awake_ok (Nat.le_refl 60), Option.bind_some]
end Go.Proofs.Ytogkjlfinjlngaa.Pure
