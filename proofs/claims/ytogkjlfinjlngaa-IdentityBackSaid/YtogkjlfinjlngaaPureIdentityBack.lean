/-
  The pure statement of one law of chapter 4. Conditions: those in the statement.
-/
import Derived.Test.YtogkjlfinjlngaaXAx8
import Derived.Test.YtogkjlfinjlngaaNumB
namespace Go.Proofs.Ytogkjlfinjlngaa.Pure
open Go.RowKit Go.Proofs.Ytogkjlfinjlngaa.XA Go.Proofs.Ytogkjlfinjlngaa.Num Go.Proofs.YtogkjlfinjlngaaW.PrintWords Go.Proofs.YtogkjlfinjlngaaW.PrintLast

theorem IdentityBack : awardingbodylaw04_IdentityBack.Pure := by
  intro a0 a1 h0 hz
  refine ⟨60, ?_⟩
  unfold awardingbodylaw04_IdentityBack.f
  obtain ⟨p1, p2, p3⟩ := n_parts (wf64 h0)
  have hv := n_valid a0
  rw [cut_ok (n := 100000000) (by omega) (by omega) (wf64 h0), Option.bind_some, p1, p2, p3, iformat_ok hv (Nat.le_refl 60), Option.bind_some]
  rw [parse_fm hv (Nat.le_refl 60), Option.bind_some]
  obtain ⟨r, hr, hc⟩ := parse_any a1
  obtain ⟨e1, -⟩ := hr 60 (Nat.le_refl 60)
  rw [e1, Option.bind_some, iformat _ _ _ (Nat.le_refl 60), Option.bind_some, awake_ok (Nat.le_refl 60)]
  simp only [beq_self_eq_true, Bool.and_self, if_true, Option.bind_some]
  rcases hc with ⟨b0, b1, b2, b3, b4, b5, b6, b7, b8, hf, hs, hr2⟩ | hr2
  · unfold pv at hr2
    by_cases e : b8 = cl b0 b1 b2 b3 b4 b5 b6 b7
    · rw [if_pos e] at hr2
      obtain ⟨hv2, hf2⟩ := fm_val hf e
      subst hr2
      unfold cut3 fv
      simp only [if_true]
      rw [if_pos hv2, if_pos rfl, if_pos (by rw [hf2, hs])]
    · rw [if_neg e] at hr2
      subst hr2
      rw [if_neg (by decide)]
  · subst hr2
    rw [if_neg (by decide)]
end Go.Proofs.Ytogkjlfinjlngaa.Pure
