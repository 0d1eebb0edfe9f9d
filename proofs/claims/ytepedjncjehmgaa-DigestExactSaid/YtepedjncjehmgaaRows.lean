/-
  No cell of these rows narrows 'for every input' (looked for: loops, veiled, ifaces, maps, wideKeys, modest, calm, conditions, laid).
  DERIVED. THE GIVEN ROWS OF THIS SEAT. 4 by the template 'for every input the law returns true; each argument reads behind the call as it read before'; 0 by the template 'total and deterministic' (their statements: YtepedjncjehmgaaTotals.lean).
  GIVEN WITH THE SEED: the statements are not yours to turn. If you find one false, say at which input.
  Laid BY PROGRAM, IN A SANDBOX (cutbox-rows.mjs): the forced cells as the released guide's own fill.sh prints them over the translation 55da8b712750ef1d… (all of the seat's roots in one cut). By AI agents, Wed Nov 11 2026. No macro, syntax, notation, axiom, sorry.
-/
import Derived.Test.YtepedjncjehmgaaChecked
import GoSem.Claim
import GoSem.ClaimJoined
import GoSem.ClaimMapViews
import Derived.JoinedTies
import Derived.KernelRfl
namespace Go.Proofs.Ytepedjncjehmgaa
/- THE CELL 'sum', in the pinned program and in every row, IS THE sha256 OF THE DUMP (.gsa) THAT YtepedjncjehmgaaProg.lean LOADS. Nothing in Lean hashes anything: it is a label: what it is worth is what the hold of that sum in a sandbox is worth. -/
noncomputable def Try.pinned : Pinned := { name := "ytepedjncjehmgaa", sum := "55da8b712750ef1de2a0a094f0abcccb8351ff0c409e1ac6865deb8732793df5", checked := Try.checked }
namespace Rows
def none {H : Type} : Left H := { results := [], args := [] }

/-- 'awardingbodylaw39.DigestBack': WHATEVER THE INPUT: true; the input reads as it did. -/
def digestBackSpec : ChangeSpec := { name := "digestBack", fn := fun _ => fun
  | [d] => { results := [.lit (.bool true)], args := [d] }
  | _ => none }
def digestBackRow : OpenClaim := { program := "ytepedjncjehmgaa", sum := "55da8b712750ef1de2a0a094f0abcccb8351ff0c409e1ac6865deb8732793df5", func := "awardingbody/awardingbodylaw39.DigestBack", spec := "digestBack", inPlace := ["internal/abi.NoEscape", "internal/bytealg.IndexByteString"], apart := false }
def DigestBackSaid : Prop := digestBackRow.holds Try.pinned (OpenSpec.ofChange digestBackSpec)

/-- ITS FALSE NEIGHBOUR: 'it returns false'. Refute it at one input. -/
def digestBackWrong : ChangeSpec := { name := "digestBack", fn := fun _ => fun
  | [d] => { results := [.lit (.bool false)], args := [d] }
  | _ => none }
def DigestBackWrongFalsely : Prop := digestBackRow.holds Try.pinned (OpenSpec.ofChange digestBackWrong)

/-- 'awardingbodylaw39.DigestUndone': WHATEVER THE INPUT: true; the input reads as it did. -/
def digestUndoneSpec : ChangeSpec := { name := "digestUndone", fn := fun _ => fun
  | [d] => { results := [.lit (.bool true)], args := [d] }
  | _ => none }
def digestUndoneRow : OpenClaim := { program := "ytepedjncjehmgaa", sum := "55da8b712750ef1de2a0a094f0abcccb8351ff0c409e1ac6865deb8732793df5", func := "awardingbody/awardingbodylaw39.DigestUndone", spec := "digestUndone", inPlace := ["internal/bytealg.IndexByteString", "internal/abi.NoEscape"], unfollowed := true, recurses := true, apart := false }
def DigestUndoneSaid : Prop := digestUndoneRow.holds Try.pinned (OpenSpec.ofChange digestUndoneSpec)

/-- ITS FALSE NEIGHBOUR: 'it returns false'. Refute it at one input. -/
def digestUndoneWrong : ChangeSpec := { name := "digestUndone", fn := fun _ => fun
  | [d] => { results := [.lit (.bool false)], args := [d] }
  | _ => none }
def DigestUndoneWrongFalsely : Prop := digestUndoneRow.holds Try.pinned (OpenSpec.ofChange digestUndoneWrong)

/-- 'awardingbodylaw39.DigestExact': WHATEVER THE INPUT: true; the input reads as it did. -/
def digestExactSpec : ChangeSpec := { name := "digestExact", fn := fun _ => fun
  | [d1, d2, d3, d4, d5] => { results := [.lit (.bool true)], args := [d1, d2, d3, d4, d5] }
  | _ => none }
def digestExactRow : OpenClaim := { program := "ytepedjncjehmgaa", sum := "55da8b712750ef1de2a0a094f0abcccb8351ff0c409e1ac6865deb8732793df5", func := "awardingbody/awardingbodylaw39.DigestExact", spec := "digestExact", inPlace := ["internal/bytealg.IndexByteString", "internal/abi.NoEscape"], apart := false }
def DigestExactSaid : Prop := digestExactRow.holds Try.pinned (OpenSpec.ofChange digestExactSpec)

/-- ITS FALSE NEIGHBOUR: 'it returns false'. Refute it at one input. -/
def digestExactWrong : ChangeSpec := { name := "digestExact", fn := fun _ => fun
  | [d1, d2, d3, d4, d5] => { results := [.lit (.bool false)], args := [d1, d2, d3, d4, d5] }
  | _ => none }
def DigestExactWrongFalsely : Prop := digestExactRow.holds Try.pinned (OpenSpec.ofChange digestExactWrong)

/-- 'awardingbodylaw39.DigestForms': WHATEVER THE INPUT: true; the input reads as it did. -/
def digestFormsSpec : ChangeSpec := { name := "digestForms", fn := fun _ => fun
  | [d1, d2, d3] => { results := [.lit (.bool true)], args := [d1, d2, d3] }
  | _ => none }
def digestFormsRow : OpenClaim := { program := "ytepedjncjehmgaa", sum := "55da8b712750ef1de2a0a094f0abcccb8351ff0c409e1ac6865deb8732793df5", func := "awardingbody/awardingbodylaw39.DigestForms", spec := "digestForms", inPlace := ["internal/bytealg.IndexByteString", "internal/abi.NoEscape"], apart := false }
def DigestFormsSaid : Prop := digestFormsRow.holds Try.pinned (OpenSpec.ofChange digestFormsSpec)

/-- ITS FALSE NEIGHBOUR: 'it returns false'. Refute it at one input. -/
def digestFormsWrong : ChangeSpec := { name := "digestForms", fn := fun _ => fun
  | [d1, d2, d3] => { results := [.lit (.bool false)], args := [d1, d2, d3] }
  | _ => none }
def DigestFormsWrongFalsely : Prop := digestFormsRow.holds Try.pinned (OpenSpec.ofChange digestFormsWrong)

/- THE SECOND FORM. 'bulk': how many values and letters a reading holds, each counted each time it is reached (what is shared counts as often as it is met; a slice's spare places count too). A statement '..UptoSaid' is the law's where the arguments, and the package variables that the reading takes, are together of bulk at most 1048576: NARROWER than '..Said'. Prove '..Said' where nothing that the law and all that it calls make is longer than what came in: it says more and counts as full. Else prove '..UptoSaid'. A law counts once. -/
mutual
def uptoBulk {H : Type} : DataW H → Nat
  | .lit (.string bytes) => bytes.length + 1
  | .lit _ => 1
  | .nil => 1
  | .ptr d => uptoBulk d + 1
  | .slice elems spare => uptoBulkAll elems + uptoBulkAll spare + 1
  | .agg parts => uptoBulkAll parts + 1
  | .iface _ d => uptoBulk d + 1
  | .map entries => uptoBulkEntries entries + 1
  | .held _ => 1
def uptoBulkAll {H : Type} : List (DataW H) → Nat
  | [] => 0
  | d :: r => uptoBulk d + uptoBulkAll r
def uptoBulkEntries {H : Type} : List (Lit × DataW H) → Nat
  | [] => 0
  | x :: r => uptoBulkEntry x + uptoBulkEntries r
def uptoBulkEntry {H : Type} : Lit × DataW H → Nat
  | (.string bytes, d) => bytes.length + uptoBulk d + 1
  | (_, d) => uptoBulk d + 1
 end
def uptoSmall : (H : Type) → List (DataW H) → Bool := fun _ ds => decide (uptoBulkAll ds ≤ 1048576)
def OpenSpec.upto (s : _root_.Go.ChangeSpec) : _root_.Go.OpenSpec := { _root_.Go.OpenSpec.ofChange s with cond := some uptoSmall }

/-- 'awardingbodylaw39.DigestBack', WHERE WHAT IT READS IS OF BULK AT MOST 1048576: true; the input reads as it did. -/
def digestBackUptoRow : OpenClaim := { program := "ytepedjncjehmgaa", sum := "55da8b712750ef1de2a0a094f0abcccb8351ff0c409e1ac6865deb8732793df5", func := "awardingbody/awardingbodylaw39.DigestBack", spec := "digestBack", inPlace := ["internal/abi.NoEscape", "internal/bytealg.IndexByteString"], apart := false, narrowed := true }
def DigestBackUptoSaid : Prop := digestBackUptoRow.holds Try.pinned (OpenSpec.upto digestBackSpec)

/-- 'awardingbodylaw39.DigestUndone', WHERE WHAT IT READS IS OF BULK AT MOST 1048576: true; the input reads as it did. -/
def digestUndoneUptoRow : OpenClaim := { program := "ytepedjncjehmgaa", sum := "55da8b712750ef1de2a0a094f0abcccb8351ff0c409e1ac6865deb8732793df5", func := "awardingbody/awardingbodylaw39.DigestUndone", spec := "digestUndone", inPlace := ["internal/bytealg.IndexByteString", "internal/abi.NoEscape"], unfollowed := true, recurses := true, apart := false, narrowed := true }
def DigestUndoneUptoSaid : Prop := digestUndoneUptoRow.holds Try.pinned (OpenSpec.upto digestUndoneSpec)

/-- 'awardingbodylaw39.DigestExact', WHERE WHAT IT READS IS OF BULK AT MOST 1048576: true; the input reads as it did. -/
def digestExactUptoRow : OpenClaim := { program := "ytepedjncjehmgaa", sum := "55da8b712750ef1de2a0a094f0abcccb8351ff0c409e1ac6865deb8732793df5", func := "awardingbody/awardingbodylaw39.DigestExact", spec := "digestExact", inPlace := ["internal/bytealg.IndexByteString", "internal/abi.NoEscape"], apart := false, narrowed := true }
def DigestExactUptoSaid : Prop := digestExactUptoRow.holds Try.pinned (OpenSpec.upto digestExactSpec)

/-- 'awardingbodylaw39.DigestForms', WHERE WHAT IT READS IS OF BULK AT MOST 1048576: true; the input reads as it did. -/
def digestFormsUptoRow : OpenClaim := { program := "ytepedjncjehmgaa", sum := "55da8b712750ef1de2a0a094f0abcccb8351ff0c409e1ac6865deb8732793df5", func := "awardingbody/awardingbodylaw39.DigestForms", spec := "digestForms", inPlace := ["internal/bytealg.IndexByteString", "internal/abi.NoEscape"], apart := false, narrowed := true }
def DigestFormsUptoSaid : Prop := digestFormsUptoRow.holds Try.pinned (OpenSpec.upto digestFormsSpec)

end Rows
end Go.Proofs.Ytepedjncjehmgaa
