/- The law TreePaths: whatever the input, the call answers true. No conditions beyond those of the given statement. -/
import Derived.Test.YtkafliflpplpeaaRows
import Derived.Test.YtkafliflpplpeaaSimTreeL1
import Derived.KernelRfl
namespace Go.Proofs.Ytkafliflpplpeaa.treePaths
open Go.ChangeShapes Go.WideShapes Go.ChangeAt Go.RowKit
set_option linter.unusedVariables false
def lays : List Sim.AT := [.slice false [.i .i64] 8, .flat false [.i .u8], .flat false [.i .u8]]
theorem own : ownKnob Try.prog.godebug = none := by kernel_rfl
theorem laidOut : laidOutB Try.prog = true := by kernel_rfl
theorem layed : Sim.argLays Try.prog Try.f3.params.toList = some lays := by kernel_rfl
theorem recs : Try.f3.params.toList.all (fun t => Try.prog.readableRec t && decide (t < Try.prog.types.size)) = true := by kernel_rfl
theorem specd : ∀ {H : Type} (ds : List (DataW H)), ds.length = 3 → (Rows.treePathsSpec.fn H ds).results = [.lit (.bool true)] ∧ (Rows.treePathsSpec.fn H ds).args = ds ∧ (Rows.treePathsSpec.fn H ds).vars = [] := by
  intro H ds h
  match ds, h with
  | [d0, d1, d2], _ => exact ⟨rfl, rfl, rfl⟩
theorem sizes : Try.f3.params.size = 3 := by kernel_rfl
theorem lifted (os : Os) (started : os.Started) (H : Type) (enc : TypeId × Value → H) :
    ReturnsInHanded {} Try.checked os 3 .any (Rows.treePathsSpec.pre6 enc Try.prog Try.f3 Rows.treePathsRow.domain false) (Rows.treePathsSpec.post enc Try.prog Try.f3 false true false false) := by
  refine returnsInHanded_of_change_sized (C := Try.checked) own started (by kernel_rfl) Try.func3
    (ChangeSpec.witness6 (enc := enc) (C := Try.checked) false ⟨#[], #[.slice none 0 0, .int .u8 0, .int .u8 0], []⟩ 8 (by kernel_rfl) (by kernel_rfl) (by kernel_rfl) (by kernel_rfl)) ?_
  intro W base args ds gs before hval0 hW hcnd hsz0 _
  exact Sim.law_of_sim Sim.linked (id := 231) (lays := lays) (tb := Try.f3.resultTypes[0]!) rfl layed laidOut recs rfl (by kernel_rfl) (by kernel_rfl) (fun ds h => specd ds (h.trans sizes)) Sim.runs_TreePaths W base args ds gs before hval0 hW hsz0
theorem over : Rows.treePathsRow.holds Try.pinned (OpenSpec.ofChange Rows.treePathsSpec) :=
  OpenClaim.holds_of_wide 3 Try.f3 rfl rfl rfl rfl rfl rfl rfl ⟨rfl, rfl, rfl, rfl, rfl⟩ rfl rfl rfl rfl rfl (by kernel_rfl) Try.func3 (by kernel_rfl)
    (of_decide_eq_true (by kernel_rfl)) (by unfold Func.isWrapper; first | (rw [if_pos (by decide +kernel)]; kernel_rfl) | (rw [if_neg (by decide +kernel)]; exact ⟨rfl, rfl⟩))
    (fun os started H enc _ => lifted os started H enc)
theorem proved : Rows.TreePathsSaid := over
end Go.Proofs.Ytkafliflpplpeaa.treePaths
namespace Go.Proofs.Ytkafliflpplpeaa
/-- The row, under a short name, for the claim. -/
theorem treePaths_holds : Rows.TreePathsSaid := treePaths.proved
end Go.Proofs.Ytkafliflpplpeaa
