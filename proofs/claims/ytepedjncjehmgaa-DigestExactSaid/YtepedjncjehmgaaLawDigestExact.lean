/- The law DigestExact: whatever the input, the call answers true. No conditions beyond those of the given statement. -/
import Derived.Test.YtepedjncjehmgaaRows
import Derived.Test.YtepedjncjehmgaaSimDigL1
import Derived.KernelRfl
namespace Go.Proofs.Ytepedjncjehmgaa.digestExact
open Go.ChangeShapes Go.WideShapes Go.ChangeAt Go.RowKit
set_option linter.unusedVariables false
def lays : List Sim.AT := [.flat true [.i .u32, .i .u32, .i .u32, .i .u32], .flat false [.i .u32], .slice false [.i .u32] 4, .slice false [.i .i64] 8, .flat false [.s]]
theorem own : ownKnob Try.prog.godebug = none := by kernel_rfl
theorem laidOut : laidOutB Try.prog = true := by kernel_rfl
theorem layed : Sim.argLays Try.prog Try.f5.params.toList = some lays := by kernel_rfl
theorem recs : Try.f5.params.toList.all (fun t => Try.prog.readableRec t && decide (t < Try.prog.types.size)) = true := by kernel_rfl
theorem specd : ∀ {H : Type} (ds : List (DataW H)), ds.length = 5 → (Rows.digestExactSpec.fn H ds).results = [.lit (.bool true)] ∧ (Rows.digestExactSpec.fn H ds).args = ds ∧ (Rows.digestExactSpec.fn H ds).vars = [] := by
  intro H ds h
  match ds, h with
  | [d0, d1, d2, d3, d4], _ => exact ⟨rfl, rfl, rfl⟩
theorem sizes : Try.f5.params.size = 5 := by kernel_rfl
theorem lifted (os : Os) (started : os.Started) (H : Type) (enc : TypeId × Value → H) :
    ReturnsInHanded {} Try.checked os 5 .any (Rows.digestExactSpec.pre6 enc Try.prog Try.f5 Rows.digestExactRow.domain false) (Rows.digestExactSpec.post enc Try.prog Try.f5 false true false false) := by
  refine returnsInHanded_of_change_sized (C := Try.checked) own started (by kernel_rfl) Try.func5
    (ChangeSpec.witness6 (enc := enc) (C := Try.checked) false ⟨#[], #[.agg #[.int .u32 0, .int .u32 0, .int .u32 0, .int .u32 0], .int .u32 0, .slice none 0 0, .slice none 0 0, .string ByteArray.empty], []⟩ 8 (by kernel_rfl) (by kernel_rfl) (by kernel_rfl) (by kernel_rfl)) ?_
  intro W base args ds gs before hval0 hW hcnd hsz0 _
  exact Sim.law_of_sim Sim.linked (id := 4) (lays := lays) (tb := Try.f5.resultTypes[0]!) rfl layed laidOut recs rfl (by kernel_rfl) (by kernel_rfl) (fun ds h => specd ds (h.trans sizes)) Sim.runs_DigestExact W base args ds gs before hval0 hW hsz0
theorem over : Rows.digestExactRow.holds Try.pinned (OpenSpec.ofChange Rows.digestExactSpec) :=
  OpenClaim.holds_of_wide 5 Try.f5 rfl rfl rfl rfl rfl rfl rfl ⟨rfl, rfl, rfl, rfl, rfl⟩ rfl rfl rfl rfl rfl (by kernel_rfl) Try.func5 (by kernel_rfl)
    (of_decide_eq_true (by kernel_rfl)) (by unfold Func.isWrapper; first | (rw [if_pos (by decide +kernel)]; kernel_rfl) | (rw [if_neg (by decide +kernel)]; exact ⟨rfl, rfl⟩))
    (fun os started H enc _ => lifted os started H enc)
theorem proved : Rows.DigestExactSaid := over
end Go.Proofs.Ytepedjncjehmgaa.digestExact
namespace Go.Proofs.Ytepedjncjehmgaa
/-- The row, under a short name, for the claim. -/
theorem digestExact_holds : Rows.DigestExactSaid := digestExact.proved
end Go.Proofs.Ytepedjncjehmgaa
