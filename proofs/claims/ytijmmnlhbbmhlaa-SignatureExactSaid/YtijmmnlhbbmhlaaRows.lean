/-
  No cell of these rows narrows 'for every input' (looked for: loops, veiled, ifaces, maps, wideKeys, modest, calm, conditions, laid).
  DERIVED. THE GIVEN ROWS OF THIS SEAT. 5 by the template 'for every input the law returns true; each argument reads behind the call as it read before'; 0 by the template 'total and deterministic' (their statements: YtijmmnlhbbmhlaaTotals.lean).
  GIVEN WITH THE SEED: the statements are not yours to turn. If you find one false, say at which input.
  Laid BY PROGRAM, IN A SANDBOX (cutbox-rows.mjs): the forced cells as the released guide's own fill.sh prints them over the translation b7c216763383b503… (all of the seat's roots in one cut). By AI agents, Wed Nov 11 2026. No macro, syntax, notation, axiom, sorry.
-/
import Derived.Test.YtijmmnlhbbmhlaaChecked
import GoSem.Claim
import GoSem.ClaimJoined
import GoSem.ClaimMapViews
import Derived.JoinedTies
import Derived.KernelRfl
namespace Go.Proofs.Ytijmmnlhbbmhlaa
/- THE CELL 'sum', in the pinned program and in every row, IS THE sha256 OF THE DUMP (.gsa) THAT YtijmmnlhbbmhlaaProg.lean LOADS. Nothing in Lean hashes anything: it is a label: what it is worth is what the hold of that sum in a sandbox is worth. -/
noncomputable def Try.pinned : Pinned := { name := "ytijmmnlhbbmhlaa", sum := "b7c216763383b50312d54e191e09547a8281b5271f6f3dae8b7cabcbaa83a1b4", checked := Try.checked }
namespace Rows
def none {H : Type} : Left H := { results := [], args := [] }

/-- 'awardingbodylaw41.SignatureExact': WHATEVER THE INPUT: true; the input reads as it did. -/
def signatureExactSpec : ChangeSpec := { name := "signatureExact", fn := fun _ => fun
  | [d1, d2, d3, d4, d5] => { results := [.lit (.bool true)], args := [d1, d2, d3, d4, d5] }
  | _ => none }
def signatureExactRow : OpenClaim := { program := "ytijmmnlhbbmhlaa", sum := "b7c216763383b50312d54e191e09547a8281b5271f6f3dae8b7cabcbaa83a1b4", func := "awardingbody/awardingbodylaw41.SignatureExact", spec := "signatureExact", recurses := true, apart := false }
def SignatureExactSaid : Prop := signatureExactRow.holds Try.pinned (OpenSpec.ofChange signatureExactSpec)

/-- ITS FALSE NEIGHBOUR: 'it returns false'. Refute it at one input. -/
def signatureExactWrong : ChangeSpec := { name := "signatureExact", fn := fun _ => fun
  | [d1, d2, d3, d4, d5] => { results := [.lit (.bool false)], args := [d1, d2, d3, d4, d5] }
  | _ => none }
def SignatureExactWrongFalsely : Prop := signatureExactRow.holds Try.pinned (OpenSpec.ofChange signatureExactWrong)

/-- 'awardingbodylaw41.SignatureHolds': WHATEVER THE INPUT: true; the input reads as it did. -/
def signatureHoldsSpec : ChangeSpec := { name := "signatureHolds", fn := fun _ => fun
  | [d1, d2, d3] => { results := [.lit (.bool true)], args := [d1, d2, d3] }
  | _ => none }
def signatureHoldsRow : OpenClaim := { program := "ytijmmnlhbbmhlaa", sum := "b7c216763383b50312d54e191e09547a8281b5271f6f3dae8b7cabcbaa83a1b4", func := "awardingbody/awardingbodylaw41.SignatureHolds", spec := "signatureHolds", apart := false }
def SignatureHoldsSaid : Prop := signatureHoldsRow.holds Try.pinned (OpenSpec.ofChange signatureHoldsSpec)

/-- ITS FALSE NEIGHBOUR: 'it returns false'. Refute it at one input. -/
def signatureHoldsWrong : ChangeSpec := { name := "signatureHolds", fn := fun _ => fun
  | [d1, d2, d3] => { results := [.lit (.bool false)], args := [d1, d2, d3] }
  | _ => none }
def SignatureHoldsWrongFalsely : Prop := signatureHoldsRow.holds Try.pinned (OpenSpec.ofChange signatureHoldsWrong)

/-- 'awardingbodylaw41.SignatureGroup': WHATEVER THE INPUT: true; the input reads as it did. -/
def signatureGroupSpec : ChangeSpec := { name := "signatureGroup", fn := fun _ => fun
  | [d1, d2, d3] => { results := [.lit (.bool true)], args := [d1, d2, d3] }
  | _ => none }
def signatureGroupRow : OpenClaim := { program := "ytijmmnlhbbmhlaa", sum := "b7c216763383b50312d54e191e09547a8281b5271f6f3dae8b7cabcbaa83a1b4", func := "awardingbody/awardingbodylaw41.SignatureGroup", spec := "signatureGroup", apart := false }
def SignatureGroupSaid : Prop := signatureGroupRow.holds Try.pinned (OpenSpec.ofChange signatureGroupSpec)

/-- ITS FALSE NEIGHBOUR: 'it returns false'. Refute it at one input. -/
def signatureGroupWrong : ChangeSpec := { name := "signatureGroup", fn := fun _ => fun
  | [d1, d2, d3] => { results := [.lit (.bool false)], args := [d1, d2, d3] }
  | _ => none }
def SignatureGroupWrongFalsely : Prop := signatureGroupRow.holds Try.pinned (OpenSpec.ofChange signatureGroupWrong)

/-- 'awardingbodylaw41.SignatureLeaks': WHATEVER THE INPUT: true; the input reads as it did. -/
def signatureLeaksSpec : ChangeSpec := { name := "signatureLeaks", fn := fun _ => fun
  | [d1, d2, d3, d4] => { results := [.lit (.bool true)], args := [d1, d2, d3, d4] }
  | _ => none }
def signatureLeaksRow : OpenClaim := { program := "ytijmmnlhbbmhlaa", sum := "b7c216763383b50312d54e191e09547a8281b5271f6f3dae8b7cabcbaa83a1b4", func := "awardingbody/awardingbodylaw41.SignatureLeaks", spec := "signatureLeaks", apart := false }
def SignatureLeaksSaid : Prop := signatureLeaksRow.holds Try.pinned (OpenSpec.ofChange signatureLeaksSpec)

/-- ITS FALSE NEIGHBOUR: 'it returns false'. Refute it at one input. -/
def signatureLeaksWrong : ChangeSpec := { name := "signatureLeaks", fn := fun _ => fun
  | [d1, d2, d3, d4] => { results := [.lit (.bool false)], args := [d1, d2, d3, d4] }
  | _ => none }
def SignatureLeaksWrongFalsely : Prop := signatureLeaksRow.holds Try.pinned (OpenSpec.ofChange signatureLeaksWrong)

/-- 'awardingbodylaw41.SignatureOther': WHATEVER THE INPUT: true; the input reads as it did. -/
def signatureOtherSpec : ChangeSpec := { name := "signatureOther", fn := fun _ => fun
  | [d1, d2, d3, d4] => { results := [.lit (.bool true)], args := [d1, d2, d3, d4] }
  | _ => none }
def signatureOtherRow : OpenClaim := { program := "ytijmmnlhbbmhlaa", sum := "b7c216763383b50312d54e191e09547a8281b5271f6f3dae8b7cabcbaa83a1b4", func := "awardingbody/awardingbodylaw41.SignatureOther", spec := "signatureOther", apart := false }
def SignatureOtherSaid : Prop := signatureOtherRow.holds Try.pinned (OpenSpec.ofChange signatureOtherSpec)

/-- ITS FALSE NEIGHBOUR: 'it returns false'. Refute it at one input. -/
def signatureOtherWrong : ChangeSpec := { name := "signatureOther", fn := fun _ => fun
  | [d1, d2, d3, d4] => { results := [.lit (.bool false)], args := [d1, d2, d3, d4] }
  | _ => none }
def SignatureOtherWrongFalsely : Prop := signatureOtherRow.holds Try.pinned (OpenSpec.ofChange signatureOtherWrong)

/- THE SECOND FORM. 'bulk': how many values and letters a reading holds, each counted each time it is reached (what is shared counts as often as it is met; a slice's spare places count too). A statement '..UptoSaid' is the law's where the arguments, and the package variables that the reading takes, are together of bulk at most 1048576: NARROWER than '..Said'. Prove '..Said' where nothing that the law and all that it calls make is longer than what came in: it says more and counts as full. Else prove '..UptoSaid'. A law counts once. -/
mutual
def uptoBulk {H : Type} : DataW H → Nat
  | .lit (.string bytes) => bytes.length + 1
  | .lit _ => 1
  | .nil => 1
  | .ptr d => uptoBulk d + 1
  | .slice elems spare => uptoBulkAll elems + uptoBulkAll spare + 1
  | .agg parts => uptoBulkAll parts + 1
  | .iface _ d => uptoBulk d + 1
  | .map entries => uptoBulkEntries entries + 1
  | .held _ => 1
def uptoBulkAll {H : Type} : List (DataW H) → Nat
  | [] => 0
  | d :: r => uptoBulk d + uptoBulkAll r
def uptoBulkEntries {H : Type} : List (Lit × DataW H) → Nat
  | [] => 0
  | x :: r => uptoBulkEntry x + uptoBulkEntries r
def uptoBulkEntry {H : Type} : Lit × DataW H → Nat
  | (.string bytes, d) => bytes.length + uptoBulk d + 1
  | (_, d) => uptoBulk d + 1
 end
def uptoSmall : (H : Type) → List (DataW H) → Bool := fun _ ds => decide (uptoBulkAll ds ≤ 1048576)
def OpenSpec.upto (s : _root_.Go.ChangeSpec) : _root_.Go.OpenSpec := { _root_.Go.OpenSpec.ofChange s with cond := some uptoSmall }

/-- 'awardingbodylaw41.SignatureExact', WHERE WHAT IT READS IS OF BULK AT MOST 1048576: true; the input reads as it did. -/
def signatureExactUptoRow : OpenClaim := { program := "ytijmmnlhbbmhlaa", sum := "b7c216763383b50312d54e191e09547a8281b5271f6f3dae8b7cabcbaa83a1b4", func := "awardingbody/awardingbodylaw41.SignatureExact", spec := "signatureExact", recurses := true, apart := false, narrowed := true }
def SignatureExactUptoSaid : Prop := signatureExactUptoRow.holds Try.pinned (OpenSpec.upto signatureExactSpec)

/-- 'awardingbodylaw41.SignatureHolds', WHERE WHAT IT READS IS OF BULK AT MOST 1048576: true; the input reads as it did. -/
def signatureHoldsUptoRow : OpenClaim := { program := "ytijmmnlhbbmhlaa", sum := "b7c216763383b50312d54e191e09547a8281b5271f6f3dae8b7cabcbaa83a1b4", func := "awardingbody/awardingbodylaw41.SignatureHolds", spec := "signatureHolds", apart := false, narrowed := true }
def SignatureHoldsUptoSaid : Prop := signatureHoldsUptoRow.holds Try.pinned (OpenSpec.upto signatureHoldsSpec)

/-- 'awardingbodylaw41.SignatureGroup', WHERE WHAT IT READS IS OF BULK AT MOST 1048576: true; the input reads as it did. -/
def signatureGroupUptoRow : OpenClaim := { program := "ytijmmnlhbbmhlaa", sum := "b7c216763383b50312d54e191e09547a8281b5271f6f3dae8b7cabcbaa83a1b4", func := "awardingbody/awardingbodylaw41.SignatureGroup", spec := "signatureGroup", apart := false, narrowed := true }
def SignatureGroupUptoSaid : Prop := signatureGroupUptoRow.holds Try.pinned (OpenSpec.upto signatureGroupSpec)

/-- 'awardingbodylaw41.SignatureLeaks', WHERE WHAT IT READS IS OF BULK AT MOST 1048576: true; the input reads as it did. -/
def signatureLeaksUptoRow : OpenClaim := { program := "ytijmmnlhbbmhlaa", sum := "b7c216763383b50312d54e191e09547a8281b5271f6f3dae8b7cabcbaa83a1b4", func := "awardingbody/awardingbodylaw41.SignatureLeaks", spec := "signatureLeaks", apart := false, narrowed := true }
def SignatureLeaksUptoSaid : Prop := signatureLeaksUptoRow.holds Try.pinned (OpenSpec.upto signatureLeaksSpec)

/-- 'awardingbodylaw41.SignatureOther', WHERE WHAT IT READS IS OF BULK AT MOST 1048576: true; the input reads as it did. -/
def signatureOtherUptoRow : OpenClaim := { program := "ytijmmnlhbbmhlaa", sum := "b7c216763383b50312d54e191e09547a8281b5271f6f3dae8b7cabcbaa83a1b4", func := "awardingbody/awardingbodylaw41.SignatureOther", spec := "signatureOther", apart := false, narrowed := true }
def SignatureOtherUptoSaid : Prop := signatureOtherUptoRow.holds Try.pinned (OpenSpec.upto signatureOtherSpec)

end Rows
end Go.Proofs.Ytijmmnlhbbmhlaa
