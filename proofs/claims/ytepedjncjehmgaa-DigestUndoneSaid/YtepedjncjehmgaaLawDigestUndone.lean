/- The law DigestUndone: whatever the input, the call answers true. No conditions beyond those of the given statement. -/
import Derived.Test.YtepedjncjehmgaaRows
import Derived.Test.YtepedjncjehmgaaSimDigL1
import Derived.KernelRfl
namespace Go.Proofs.Ytepedjncjehmgaa.digestUndone
open Go.ChangeShapes Go.WideShapes Go.ChangeAt Go.RowKit
set_option linter.unusedVariables false
def lays : List Sim.AT := [.flat true [.i .u32, .i .u32, .i .u32, .i .u32]]
theorem own : ownKnob Try.prog.godebug = none := by kernel_rfl
theorem laidOut : laidOutB Try.prog = true := by kernel_rfl
theorem layed : Sim.argLays Try.prog Try.f4.params.toList = some lays := by kernel_rfl
theorem recs : Try.f4.params.toList.all (fun t => Try.prog.readableRec t && decide (t < Try.prog.types.size)) = true := by kernel_rfl
theorem specd : ∀ {H : Type} (ds : List (DataW H)), ds.length = 1 → (Rows.digestUndoneSpec.fn H ds).results = [.lit (.bool true)] ∧ (Rows.digestUndoneSpec.fn H ds).args = ds ∧ (Rows.digestUndoneSpec.fn H ds).vars = [] := by
  intro H ds h
  match ds, h with
  | [d0], _ => exact ⟨rfl, rfl, rfl⟩
theorem sizes : Try.f4.params.size = 1 := by kernel_rfl
theorem lifted (os : Os) (started : os.Started) (H : Type) (enc : TypeId × Value → H) :
    ReturnsInHanded {} Try.checked os 4 .any (Rows.digestUndoneSpec.pre6 enc Try.prog Try.f4 Rows.digestUndoneRow.domain false) (Rows.digestUndoneSpec.post enc Try.prog Try.f4 false true false false) := by
  refine returnsInHanded_of_change_sized (C := Try.checked) own started (by kernel_rfl) Try.func4
    (ChangeSpec.witness6 (enc := enc) (C := Try.checked) false ⟨#[], #[.agg #[.int .u32 0, .int .u32 0, .int .u32 0, .int .u32 0]], []⟩ 8 (by kernel_rfl) (by kernel_rfl) (by kernel_rfl) (by kernel_rfl)) ?_
  intro W base args ds gs before hval0 hW hcnd hsz0 _
  exact Sim.law_of_sim Sim.linked (id := 3) (lays := lays) (tb := Try.f4.resultTypes[0]!) rfl layed laidOut recs rfl (by kernel_rfl) (by kernel_rfl) (fun ds h => specd ds (h.trans sizes)) Sim.runs_DigestUndone W base args ds gs before hval0 hW hsz0
theorem over : Rows.digestUndoneRow.holds Try.pinned (OpenSpec.ofChange Rows.digestUndoneSpec) :=
  OpenClaim.holds_of_wide 4 Try.f4 rfl rfl rfl rfl rfl rfl rfl ⟨rfl, rfl, rfl, rfl, rfl⟩ rfl rfl rfl rfl rfl (by kernel_rfl) Try.func4 (by kernel_rfl)
    (of_decide_eq_true (by kernel_rfl)) (by unfold Func.isWrapper; first | (rw [if_pos (by decide +kernel)]; kernel_rfl) | (rw [if_neg (by decide +kernel)]; exact ⟨rfl, rfl⟩))
    (fun os started H enc _ => lifted os started H enc)
theorem proved : Rows.DigestUndoneSaid := over
end Go.Proofs.Ytepedjncjehmgaa.digestUndone
namespace Go.Proofs.Ytepedjncjehmgaa
/-- The row, under a short name, for the claim. -/
theorem digestUndone_holds : Rows.DigestUndoneSaid := digestUndone.proved
end Go.Proofs.Ytepedjncjehmgaa
