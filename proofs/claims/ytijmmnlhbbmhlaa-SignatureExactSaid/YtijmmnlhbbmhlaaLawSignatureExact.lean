/-
  The row of the law SignatureExact: out of its pure statement (YtijmmnlhbbmhlaaPureSignatureExact) and the walk.
  Conditions: none beyond the row's own. Written by a program of this project (wip/tools/xprint.py).
-/
import Derived.Test.YtijmmnlhbbmhlaaRows
import Derived.Test.YtijmmnlhbbmhlaaXEx7
import Derived.Test.YtijmmnlhbbmhlaaPureSignatureExact
import Derived.WalkKit
import Derived.ProofKit
import Derived.OpenShut
import Derived.ShutString
import Derived.ChangeOld
import Derived.Below
import Derived.SizedLaws
import Derived.Lib.SmallJoins
namespace Go.Proofs.Ytijmmnlhbbmhlaa.signatureExact
open Go.ChangeShapes Go.WideShapes Go.ChangeAt Go.RowKit Go.Joins
open Go.ChangeMaps (open_string shut_string)
set_option linter.unusedVariables false
set_option linter.unusedSimpArgs false
theorem own : ownKnob Try.prog.godebug = none := by kernel_rfl
theorem laidOut : laidOutB Try.prog = true := by kernel_rfl
theorem arr24 {H : Type} {enc : TypeId × Value → H} {w : World} {b : Nat} {base : Nat} {sp : Nat → Bool} {held : Bool} {v : Value} {d : DataW H} {p : List MemPlace} (hv : Value.okWide Try.prog w .any b 24 v) (h : DataW.Trod enc Try.prog w base sp held 24 v d p) :
    ∃ c0 c1 c2 c3 : Int, v = .agg #[.int .u32 c0, .int .u32 c1, .int .u32 c2, .int .u32 c3] ∧ (Lit.int .u32 c0).wf = true ∧ (Lit.int .u32 c1).wf = true ∧ (Lit.int .u32 c2).wf = true ∧ (Lit.int .u32 c3).wf = true := by
  have hv' := hv
  simp only [Value.okWide, Try.underlying24] at hv'
  obtain ⟨cs, rfl, hsz, _⟩ := hv'
  have hC : Try.prog.cellsOf 24 = 4 := by kernel_rfl
  have hE : Try.prog.cellsOf 22 = 1 := by kernel_rfl
  rw [hC] at hsz
  obtain ⟨v0, v1, v2, v3, rfl⟩ := array4 hsz
  obtain ⟨fuel, hf⟩ := h
  obtain ⟨xs, n, _, _, _, _, hx⟩ := DataW.trod_array Try.underlying24 hf
  have e0 := hx 0 (by omega)
  have l0 : xs[0]? = some (xs[0]'(by omega)) := List.getElem?_eq_getElem (by omega)
  rw [l0] at e0
  simp only [hE, Value.cells] at e0
  obtain ⟨n0, f0, _, g0⟩ := DataW.trod_int Try.underlying22 e0
  simp at f0
  have e1 := hx 1 (by omega)
  have l1 : xs[1]? = some (xs[1]'(by omega)) := List.getElem?_eq_getElem (by omega)
  rw [l1] at e1
  simp only [hE, Value.cells] at e1
  obtain ⟨n1, f1, _, g1⟩ := DataW.trod_int Try.underlying22 e1
  simp at f1
  have e2 := hx 2 (by omega)
  have l2 : xs[2]? = some (xs[2]'(by omega)) := List.getElem?_eq_getElem (by omega)
  rw [l2] at e2
  simp only [hE, Value.cells] at e2
  obtain ⟨n2, f2, _, g2⟩ := DataW.trod_int Try.underlying22 e2
  simp at f2
  have e3 := hx 3 (by omega)
  have l3 : xs[3]? = some (xs[3]'(by omega)) := List.getElem?_eq_getElem (by omega)
  rw [l3] at e3
  simp only [hE, Value.cells] at e3
  obtain ⟨n3, f3, _, g3⟩ := DataW.trod_int Try.underlying22 e3
  simp at f3
  subst f0 f1 f2 f3
  exact ⟨n0, n1, n2, n3, rfl, g0, g1, g2, g3⟩
set_option maxRecDepth 100000 in
theorem lifted (os : Os) (started : os.Started) (H : Type) (enc : TypeId × Value → H) :
    ReturnsInHanded {} Try.checked os 3 .any (Rows.signatureExactSpec.pre6 enc Try.prog Try.f3 Rows.signatureExactRow.domain false) (Rows.signatureExactSpec.post enc Try.prog Try.f3 false true false false) := by
  refine returnsInHanded_of_change_sized (C := Try.checked) own started (by kernel_rfl) Try.func3
    (ChangeSpec.witness6 (enc := enc) (C := Try.checked) false ⟨#[], #[.int .i64 0, .int .i64 0, .int .i64 0, .agg #[.int .u32 0, .int .u32 0, .int .u32 0, .int .u32 0], .agg #[.int .i64 0, .int .i64 0]], []⟩ 8 (by kernel_rfl) (by kernel_rfl) (by kernel_rfl) (by kernel_rfl)) ?_
  intro W base args ds gs before hval0 hW hcnd hsz0 _
  have hsz : (DataW.weightsEach Try.prog (Try.f3.params.toList ++ Rows.signatureExactSpec.plain.varTypes Try.prog) (ds ++ gs)).all (· ≤ reachBytes) = true := hsz0
  have hval : ∀ (j : Nat) t v, Try.f3.params[j]? = some t → args[j]? = some v → Value.okWide Try.prog W .any base t v := hval0
  have hW' := hW
  obtain ⟨p, q, hA0, hV, rfl, hfz, hnd⟩ := hW
  have hA : DataW.TrodAll enc Try.prog W 0 (fun _ => true) true Try.f3.params.toList args.toList ds p := hA0
  rw [Try.params3] at hA hval hsz
  obtain ⟨v0, vs0, d0, ds0, p0, q0, hargs, rfl, rfl, h0, r0⟩ := trodAll_cons hA
  obtain ⟨v1, vs1, d1, ds1, p1, q1, rfl, rfl, rfl, h1, r1⟩ := trodAll_cons r0
  obtain ⟨v2, vs2, d2, ds2, p2, q2, rfl, rfl, rfl, h2, r2⟩ := trodAll_cons r1
  obtain ⟨v3, vs3, d3, ds3, p3, q3, rfl, rfl, rfl, h3, r3⟩ := trodAll_cons r2
  obtain ⟨v4, vs4, d4, ds4, p4, q4, rfl, rfl, rfl, h4, r4⟩ := trodAll_cons r3
  obtain ⟨rfl, rfl, rfl⟩ := trodAll_nil r4
  obtain rfl : args = #[v0, v1, v2, v3, v4] := by cases args; simp_all
  obtain ⟨rfl, rfl⟩ := trodVars_none hV
  obtain ⟨a0, rfl, rfl, rfl, w0⟩ := open_int Try.underlying3 (hval 0 3 v0 rfl rfl) h0
  obtain ⟨a1, rfl, rfl, rfl, w1⟩ := open_int Try.underlying3 (hval 1 3 v1 rfl rfl) h1
  obtain ⟨a2, rfl, rfl, rfl, w2⟩ := open_int Try.underlying3 (hval 2 3 v2 rfl rfl) h2
  have k3 := h3
  have lt3 : ∀ x ∈ p3, x.block < W.heap.size := by obtain ⟨m, hm⟩ := k3; exact DataW.trod_lt m _ _ _ hm
  obtain ⟨a3_0, a3_1, a3_2, a3_3, rfl, w3_0, w3_1, w3_2, w3_3⟩ := arr24 (hval 3 24 v3 rfl rfl) h3
  have k4 := h4
  have lt4 : ∀ x ∈ p4, x.block < W.heap.size := by obtain ⟨m, hm⟩ := k4; exact DataW.trod_lt m _ _ _ hm
  obtain ⟨e4_0, e4_1, y4_0, y4_1, fu4, rfl, _, _, t4_0, t4_1⟩ := open_agg2 Try.underlying26 (by kernel_rfl) (by kernel_rfl) (hval 4 26 v4 rfl rfl) h4
  obtain ⟨a4_0, f4_0, _, w4_0⟩ := DataW.trod_int Try.underlying3 t4_0
  simp at f4_0
  subst f4_0
  obtain ⟨a4_1, f4_1, _, w4_1⟩ := DataW.trod_int Try.underlying3 t4_1
  simp at f4_1
  subst f4_1
  clear hA0 hval0 hsz0 hsz
  refine (XE.awardingbodylaw41_SignatureExact.walk Pure.SignatureExact a0 a1 a2 a3_0 a3_1 a3_2 a3_3 a4_0 a4_1 W w0 w1 w2 w3_0 w3_1 w3_2 w3_3 w4_0 w4_1).mono fun e W' ⟨he, bel⟩ => ?_
  subst he
  exact ⟨_, rfl, _, _, _, [], _, [], hW', trodAll_mk1 (shut_bool Try.underlying4 _), (trodAll_cons_mk (shut_int Try.underlying3 w0) (trodAll_cons_mk (shut_int Try.underlying3 w1) (trodAll_cons_mk (shut_int Try.underlying3 w2) (trodAll_cons_mk (Below.trod laidOut (by kernel_rfl) (of_decide_eq_true (by kernel_rfl)) k3 bel lt3) (trodAll_cons_mk (Below.trod laidOut (by kernel_rfl) (of_decide_eq_true (by kernel_rfl)) k4 bel lt4) trodAll_mk0))))), rfl, bel.frame _, fun h => by cases h⟩
theorem over : Rows.signatureExactRow.holds Try.pinned (OpenSpec.ofChange Rows.signatureExactSpec) :=
  OpenClaim.holds_of_wide 3 Try.f3 rfl rfl rfl rfl rfl rfl rfl ⟨rfl, rfl, rfl, rfl, rfl⟩ rfl rfl rfl rfl rfl (by kernel_rfl) Try.func3 (by kernel_rfl)
    (of_decide_eq_true (by kernel_rfl)) (by unfold Func.isWrapper; first | (rw [if_pos (by decide +kernel)]; kernel_rfl) | (rw [if_neg (by decide +kernel)]; exact ⟨rfl, rfl⟩))
    (fun os started H enc _ => lifted os started H enc)
theorem proved : Rows.SignatureExactSaid := over
#print axioms proved
end Go.Proofs.Ytijmmnlhbbmhlaa.signatureExact
namespace Go.Proofs.Ytijmmnlhbbmhlaa
/-- The row, under a short name, for the claim. -/
theorem signatureExact_holds : Rows.SignatureExactSaid := signatureExact.proved
end Go.Proofs.Ytijmmnlhbbmhlaa
