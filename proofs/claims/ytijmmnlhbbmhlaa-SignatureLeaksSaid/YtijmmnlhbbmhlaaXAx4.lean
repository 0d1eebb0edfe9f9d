/- Go functions of the program as plain Lean functions with a number of rounds, and that the calls come to exactly their answers. Conditions: those in each theorem. Written by a program of this project (wip/tools/xprint.py). -/
import Derived.Test.YtijmmnlhbbmhlaaXAx0
import Derived.Test.YtijmmnlhbbmhlaaXAx1
import Derived.Test.YtijmmnlhbbmhlaaXAx2
namespace Go.Proofs.Ytijmmnlhbbmhlaa.XA
open Go.RowKit Go.Proofs.Ytijmmnlhbbmhlaa.Ix Go.Proofs.YtijmmnlhbbmhlaaW.PrintWords Go.Proofs.YtijmmnlhbbmhlaaW.PrintLast Go.Proofs.YtijmmnlhbbmhlaaW.PrintMore
attribute [local go_sem] max2_int min2_int max_two min_two max_three min_three max_four min_four   -- for this text's walks alone
set_option linter.unusedVariables false
set_option linter.unusedSimpArgs false

/-! ### awardingbodylaw41_SignatureLeaks: function 6 -/
mutual
def awardingbodylaw41_SignatureLeaks.j0 : Nat → Int → Int → Int → Int → Int → Bool → Option (Bool)
  | 0, _, _, _, _, _, _ => none
  | k + 1, x9, x14, x15, x16, x17, x75 => if x75 = true then (some false) else (if x14 = x15 then ((awardingbodylaw41_sane.f k).bind fun t216 => (some t216)) else ((awardingbodymark_Mod.f (wrap64 (x16 - x17)) 1073741789).bind fun t217 => ((awardingbodymark_Mod.f (wrap64 (x14 - x15)) 1073741789).bind fun t218 => (awardingbodylaw41_SignatureLeaks.l0 k x9 t217 1 t218 1073741787))))
def awardingbodylaw41_SignatureLeaks.l0 : Nat → Int → Int → Int → Int → Int → Option (Bool)
  | 0, _, _, _, _, _ => none
  | k + 1, x9, x18, x20, x21, x22 => if x22 > 0 then (if (Int.tmod x22 2) = 1 then (awardingbodylaw41_SignatureLeaks.l0 k x9 x18 (Int.tmod (wrap64 (x20 * x21)) 1073741789) (Int.tmod (wrap64 (x21 * x21)) 1073741789) (wrap64 (Int.tdiv x22 2))) else (awardingbodylaw41_SignatureLeaks.l0 k x9 x18 x20 (Int.tmod (wrap64 (x21 * x21)) 1073741789) (wrap64 (Int.tdiv x22 2)))) else (if (Int.tmod (wrap64 (x18 * x20)) 1073741789) = x9 then ((awardingbodylaw41_sane.f k).bind fun t219 => (some t219)) else (some false))
end
def awardingbodylaw41_SignatureLeaks.f (k : Nat) (a0 : Int) (a1 : Int) (a2_0 : Int) (a2_1 : Int) (a2_2 : Int) (a2_3 : Int) (a3_0 : Int) (a3_1 : Int) (a3_2 : Int) (a3_3 : Int) : Option (Bool) := (awardingbodymark_Mod.f a0 1073741788).bind fun t207 => ((awardingbodymark_Mod.f a1 1073741788).bind fun t208 => ((signature_Public.f k (wrap64 (1 + t207))).bind fun bt209 => ((signature_Power.f k 4 (wrap64 (1 + t208))).bind fun t211 => ((signature_Challenge.f k t211 bt209.1 a2_0 a2_1 a2_2 a2_3).bind fun t212 => ((signature_Challenge.f k t211 bt209.1 a3_0 a3_1 a3_2 a3_3).bind fun t213 => (if bt209.2 = 0 then ((signature_Verify.f k bt209.1 a2_0 a2_1 a2_2 a2_3 t211 (Int.tmod (wrap64 ((wrap64 (1 + t208)) + (wrap64 (t212 * (wrap64 (1 + t207)))))) 1073741789)).bind fun t214 => (if t214 = true then ((signature_Verify.f k bt209.1 a3_0 a3_1 a3_2 a3_3 t211 (Int.tmod (wrap64 ((wrap64 (1 + t208)) + (wrap64 (t213 * (wrap64 (1 + t207)))))) 1073741789)).bind fun t215 => (awardingbodylaw41_SignatureLeaks.j0 k (wrap64 (1 + t207)) t212 t213 (Int.tmod (wrap64 ((wrap64 (1 + t208)) + (wrap64 (t212 * (wrap64 (1 + t207)))))) 1073741789) (Int.tmod (wrap64 ((wrap64 (1 + t208)) + (wrap64 (t213 * (wrap64 (1 + t207)))))) 1073741789) (!t215))) else (awardingbodylaw41_SignatureLeaks.j0 k (wrap64 (1 + t207)) t212 t213 (Int.tmod (wrap64 ((wrap64 (1 + t208)) + (wrap64 (t212 * (wrap64 (1 + t207)))))) 1073741789) (Int.tmod (wrap64 ((wrap64 (1 + t208)) + (wrap64 (t213 * (wrap64 (1 + t207)))))) 1073741789) true))) else (awardingbodylaw41_SignatureLeaks.j0 k (wrap64 (1 + t207)) t212 t213 (Int.tmod (wrap64 ((wrap64 (1 + t208)) + (wrap64 (t212 * (wrap64 (1 + t207)))))) 1073741789) (Int.tmod (wrap64 ((wrap64 (1 + t208)) + (wrap64 (t213 * (wrap64 (1 + t207)))))) 1073741789) true)))))))
theorem awardingbodylaw41_SignatureLeaks.mono_l : ∀ k, (∀ y0 y1 y2 y3 y4 y5, LeO (awardingbodylaw41_SignatureLeaks.j0 k y0 y1 y2 y3 y4 y5) (awardingbodylaw41_SignatureLeaks.j0 (k + 1) y0 y1 y2 y3 y4 y5)) ∧ (∀ y0 y1 y2 y3 y4, LeO (awardingbodylaw41_SignatureLeaks.l0 k y0 y1 y2 y3 y4) (awardingbodylaw41_SignatureLeaks.l0 (k + 1) y0 y1 y2 y3 y4))
  | 0 => ⟨fun _ _ _ _ _ _ r h => by simp [awardingbodylaw41_SignatureLeaks.j0] at h, fun _ _ _ _ _ r h => by simp [awardingbodylaw41_SignatureLeaks.l0] at h⟩
  | k + 1 => by
    obtain ⟨ih0, ih1⟩ := awardingbodylaw41_SignatureLeaks.mono_l k
    refine ⟨?_, ?_⟩
    · intro y0 y1 y2 y3 y4 y5
      unfold awardingbodylaw41_SignatureLeaks.j0
      repeat' first
      | (with_reducible exact ih0 _ _ _ _ _ _)
      | (with_reducible exact ih1 _ _ _ _ _)
      | (with_reducible exact awardingbodylaw41_sane.mono _)
      | (with_reducible exact signature_Challenge.mono _ _ _ _ _ _ _)
      | (with_reducible exact signature_Power.mono _ _ _)
      | (with_reducible exact signature_Public.mono _ _)
      | (with_reducible exact signature_Verify.mono _ _ _ _ _ _ _ _)
      | (with_reducible exact LeO.refl _)
      | (with_reducible exact LeO.none _)
      | (with_reducible refine LeO.ite ?_ ?_)
      | (with_reducible refine LeO.bind ?_ (fun _ => ?_))
      | exact ih0 _ _ _ _ _ _
      | exact ih1 _ _ _ _ _
      | exact awardingbodylaw41_sane.mono _
      | exact signature_Challenge.mono _ _ _ _ _ _ _
      | exact signature_Power.mono _ _ _
      | exact signature_Public.mono _ _
      | exact signature_Verify.mono _ _ _ _ _ _ _ _
      | exact LeO.none _
      | refine LeO.ite ?_ ?_
      | refine LeO.bind ?_ (fun _ => ?_)
    · intro y0 y1 y2 y3 y4
      unfold awardingbodylaw41_SignatureLeaks.l0
      repeat' first
      | (with_reducible exact ih0 _ _ _ _ _ _)
      | (with_reducible exact ih1 _ _ _ _ _)
      | (with_reducible exact awardingbodylaw41_sane.mono _)
      | (with_reducible exact signature_Challenge.mono _ _ _ _ _ _ _)
      | (with_reducible exact signature_Power.mono _ _ _)
      | (with_reducible exact signature_Public.mono _ _)
      | (with_reducible exact signature_Verify.mono _ _ _ _ _ _ _ _)
      | (with_reducible exact LeO.refl _)
      | (with_reducible exact LeO.none _)
      | (with_reducible refine LeO.ite ?_ ?_)
      | (with_reducible refine LeO.bind ?_ (fun _ => ?_))
      | exact ih0 _ _ _ _ _ _
      | exact ih1 _ _ _ _ _
      | exact awardingbodylaw41_sane.mono _
      | exact signature_Challenge.mono _ _ _ _ _ _ _
      | exact signature_Power.mono _ _ _
      | exact signature_Public.mono _ _
      | exact signature_Verify.mono _ _ _ _ _ _ _ _
      | exact LeO.none _
      | refine LeO.ite ?_ ?_
      | refine LeO.bind ?_ (fun _ => ?_)
theorem awardingbodylaw41_SignatureLeaks.mono : ∀ a0 a1 a2 a3 a4 a5 a6 a7 a8 a9 k, LeO (awardingbodylaw41_SignatureLeaks.f k a0 a1 a2 a3 a4 a5 a6 a7 a8 a9) (awardingbodylaw41_SignatureLeaks.f (k + 1) a0 a1 a2 a3 a4 a5 a6 a7 a8 a9) := by
  intro a0 a1 a2 a3 a4 a5 a6 a7 a8 a9 k
  obtain ⟨ih0, ih1⟩ := awardingbodylaw41_SignatureLeaks.mono_l k
  unfold awardingbodylaw41_SignatureLeaks.f
  repeat' first
      | (with_reducible exact ih0 _ _ _ _ _ _)
      | (with_reducible exact ih1 _ _ _ _ _)
      | (with_reducible exact awardingbodylaw41_sane.mono _)
      | (with_reducible exact signature_Challenge.mono _ _ _ _ _ _ _)
      | (with_reducible exact signature_Power.mono _ _ _)
      | (with_reducible exact signature_Public.mono _ _)
      | (with_reducible exact signature_Verify.mono _ _ _ _ _ _ _ _)
      | (with_reducible exact LeO.refl _)
      | (with_reducible exact LeO.none _)
      | (with_reducible refine LeO.ite ?_ ?_)
      | (with_reducible refine LeO.bind ?_ (fun _ => ?_))
      | exact ih0 _ _ _ _ _ _
      | exact ih1 _ _ _ _ _
      | exact awardingbodylaw41_sane.mono _
      | exact signature_Challenge.mono _ _ _ _ _ _ _
      | exact signature_Power.mono _ _ _
      | exact signature_Public.mono _ _
      | exact signature_Verify.mono _ _ _ _ _ _ _ _
      | exact LeO.none _
      | refine LeO.ite ?_ ?_
      | refine LeO.bind ?_ (fun _ => ?_)
def awardingbodylaw41_SignatureLeaks.T4 : Bool × List (List Nat × List Nat) := (true, [([], []), ([], []), ([], []), ([0, 1, 2], [0, 1, 2]), ([], []), ([], []), ([], []), ([4, 5, 6, 3], [4, 5, 6]), ([3, 7, 0, 1, 2, 3], [3]), ([7, 8, 0, 1, 2, 3, 4, 5, 6, 7, 8], [7])])
def awardingbodylaw41_SignatureLeaks.B4 : List Nat := [0, 0, 0, 7, 0, 0, 0, 127, 255, 511]
theorem awardingbodylaw41_SignatureLeaks.tab4 : rtab .any (opsOf Try.f6 4) = awardingbodylaw41_SignatureLeaks.T4 := by kernel_rfl
theorem awardingbodylaw41_SignatureLeaks.bits4 : waitsOk awardingbodylaw41_SignatureLeaks.T4.2 awardingbodylaw41_SignatureLeaks.B4 = true := by kernel_rfl
set_option maxHeartbeats 8000000 in
set_option maxRecDepth 100000 in
theorem awardingbodylaw41_SignatureLeaks.calls (k : Nat) (a0 : Int) (a1 : Int) (a2_0 : Int) (a2_1 : Int) (a2_2 : Int) (a2_3 : Int) (a3_0 : Int) (a3_1 : Int) (a3_2 : Int) (a3_3 : Int) (r : Bool) (w : World) (h : awardingbodylaw41_SignatureLeaks.f k a0 a1 a2_0 a2_1 a2_2 a2_3 a3_0 a3_1 a3_2 a3_3 = some r) :
    Calls Try.prog 6 #[.int .i64 a0, .int .i64 a1, .agg #[.int .u32 a2_0, .int .u32 a2_1, .int .u32 a2_2, .int .u32 a2_3], .agg #[.int .u32 a3_0, .int .u32 a3_1, .int .u32 a3_2, .int .u32 a3_3]] w fun e w' => e = .returned (.bool r) ∧ Below w.heap.size w w' := by
  have hu24 := Try.underlying24
  have hu26 := Try.underlying26
  have HB := Aside0.mk (Below.refl w.heap.size w)
  have H : ((awardingbodymark_Mod.f a0 1073741788).bind fun t207 => ((awardingbodymark_Mod.f a1 1073741788).bind fun t208 => ((signature_Public.f k (wrap64 (1 + t207))).bind fun bt209 => ((signature_Power.f k 4 (wrap64 (1 + t208))).bind fun t211 => ((signature_Challenge.f k t211 bt209.1 a2_0 a2_1 a2_2 a2_3).bind fun t212 => ((signature_Challenge.f k t211 bt209.1 a3_0 a3_1 a3_2 a3_3).bind fun t213 => (if bt209.2 = 0 then ((signature_Verify.f k bt209.1 a2_0 a2_1 a2_2 a2_3 t211 (Int.tmod (wrap64 ((wrap64 (1 + t208)) + (wrap64 (t212 * (wrap64 (1 + t207)))))) 1073741789)).bind fun t214 => (if t214 = true then ((signature_Verify.f k bt209.1 a3_0 a3_1 a3_2 a3_3 t211 (Int.tmod (wrap64 ((wrap64 (1 + t208)) + (wrap64 (t213 * (wrap64 (1 + t207)))))) 1073741789)).bind fun t215 => (awardingbodylaw41_SignatureLeaks.j0 k (wrap64 (1 + t207)) t212 t213 (Int.tmod (wrap64 ((wrap64 (1 + t208)) + (wrap64 (t212 * (wrap64 (1 + t207)))))) 1073741789) (Int.tmod (wrap64 ((wrap64 (1 + t208)) + (wrap64 (t213 * (wrap64 (1 + t207)))))) 1073741789) (!t215))) else (awardingbodylaw41_SignatureLeaks.j0 k (wrap64 (1 + t207)) t212 t213 (Int.tmod (wrap64 ((wrap64 (1 + t208)) + (wrap64 (t212 * (wrap64 (1 + t207)))))) 1073741789) (Int.tmod (wrap64 ((wrap64 (1 + t208)) + (wrap64 (t213 * (wrap64 (1 + t207)))))) 1073741789) true))) else (awardingbodylaw41_SignatureLeaks.j0 k (wrap64 (1 + t207)) t212 t213 (Int.tmod (wrap64 ((wrap64 (1 + t208)) + (wrap64 (t212 * (wrap64 (1 + t207)))))) 1073741789) (Int.tmod (wrap64 ((wrap64 (1 + t208)) + (wrap64 (t213 * (wrap64 (1 + t207)))))) 1073741789) true)))))))) = some r := h
  clear h
  replace H := Option.bind_eq_some_iff.mp H
  obtain ⟨t207, A50, H⟩ := H
  replace H : ((awardingbodymark_Mod.f a1 1073741788).bind fun t208 => ((signature_Public.f k (wrap64 (1 + t207))).bind fun bt209 => ((signature_Power.f k 4 (wrap64 (1 + t208))).bind fun t211 => ((signature_Challenge.f k t211 bt209.1 a2_0 a2_1 a2_2 a2_3).bind fun t212 => ((signature_Challenge.f k t211 bt209.1 a3_0 a3_1 a3_2 a3_3).bind fun t213 => (if bt209.2 = 0 then ((signature_Verify.f k bt209.1 a2_0 a2_1 a2_2 a2_3 t211 (Int.tmod (wrap64 ((wrap64 (1 + t208)) + (wrap64 (t212 * (wrap64 (1 + t207)))))) 1073741789)).bind fun t214 => (if t214 = true then ((signature_Verify.f k bt209.1 a3_0 a3_1 a3_2 a3_3 t211 (Int.tmod (wrap64 ((wrap64 (1 + t208)) + (wrap64 (t213 * (wrap64 (1 + t207)))))) 1073741789)).bind fun t215 => (awardingbodylaw41_SignatureLeaks.j0 k (wrap64 (1 + t207)) t212 t213 (Int.tmod (wrap64 ((wrap64 (1 + t208)) + (wrap64 (t212 * (wrap64 (1 + t207)))))) 1073741789) (Int.tmod (wrap64 ((wrap64 (1 + t208)) + (wrap64 (t213 * (wrap64 (1 + t207)))))) 1073741789) (!t215))) else (awardingbodylaw41_SignatureLeaks.j0 k (wrap64 (1 + t207)) t212 t213 (Int.tmod (wrap64 ((wrap64 (1 + t208)) + (wrap64 (t212 * (wrap64 (1 + t207)))))) 1073741789) (Int.tmod (wrap64 ((wrap64 (1 + t208)) + (wrap64 (t213 * (wrap64 (1 + t207)))))) 1073741789) true))) else (awardingbodylaw41_SignatureLeaks.j0 k (wrap64 (1 + t207)) t212 t213 (Int.tmod (wrap64 ((wrap64 (1 + t208)) + (wrap64 (t212 * (wrap64 (1 + t207)))))) 1073741789) (Int.tmod (wrap64 ((wrap64 (1 + t208)) + (wrap64 (t213 * (wrap64 (1 + t207)))))) 1073741789) true))))))) = some r := H
  have A5 := Aside0.mk A50
  clear A50
  replace H := Option.bind_eq_some_iff.mp H
  obtain ⟨t208, A60, H⟩ := H
  replace H : ((signature_Public.f k (wrap64 (1 + t207))).bind fun bt209 => ((signature_Power.f k 4 (wrap64 (1 + t208))).bind fun t211 => ((signature_Challenge.f k t211 bt209.1 a2_0 a2_1 a2_2 a2_3).bind fun t212 => ((signature_Challenge.f k t211 bt209.1 a3_0 a3_1 a3_2 a3_3).bind fun t213 => (if bt209.2 = 0 then ((signature_Verify.f k bt209.1 a2_0 a2_1 a2_2 a2_3 t211 (Int.tmod (wrap64 ((wrap64 (1 + t208)) + (wrap64 (t212 * (wrap64 (1 + t207)))))) 1073741789)).bind fun t214 => (if t214 = true then ((signature_Verify.f k bt209.1 a3_0 a3_1 a3_2 a3_3 t211 (Int.tmod (wrap64 ((wrap64 (1 + t208)) + (wrap64 (t213 * (wrap64 (1 + t207)))))) 1073741789)).bind fun t215 => (awardingbodylaw41_SignatureLeaks.j0 k (wrap64 (1 + t207)) t212 t213 (Int.tmod (wrap64 ((wrap64 (1 + t208)) + (wrap64 (t212 * (wrap64 (1 + t207)))))) 1073741789) (Int.tmod (wrap64 ((wrap64 (1 + t208)) + (wrap64 (t213 * (wrap64 (1 + t207)))))) 1073741789) (!t215))) else (awardingbodylaw41_SignatureLeaks.j0 k (wrap64 (1 + t207)) t212 t213 (Int.tmod (wrap64 ((wrap64 (1 + t208)) + (wrap64 (t212 * (wrap64 (1 + t207)))))) 1073741789) (Int.tmod (wrap64 ((wrap64 (1 + t208)) + (wrap64 (t213 * (wrap64 (1 + t207)))))) 1073741789) true))) else (awardingbodylaw41_SignatureLeaks.j0 k (wrap64 (1 + t207)) t212 t213 (Int.tmod (wrap64 ((wrap64 (1 + t208)) + (wrap64 (t212 * (wrap64 (1 + t207)))))) 1073741789) (Int.tmod (wrap64 ((wrap64 (1 + t208)) + (wrap64 (t213 * (wrap64 (1 + t207)))))) 1073741789) true)))))) = some r := H
  have A6 := Aside0.mk A60
  clear A60
  replace H := Option.bind_eq_some_iff.mp H
  obtain ⟨⟨t209, t210⟩, A70, H⟩ := H
  replace H : ((signature_Power.f k 4 (wrap64 (1 + t208))).bind fun t211 => ((signature_Challenge.f k t211 t209 a2_0 a2_1 a2_2 a2_3).bind fun t212 => ((signature_Challenge.f k t211 t209 a3_0 a3_1 a3_2 a3_3).bind fun t213 => (if t210 = 0 then ((signature_Verify.f k t209 a2_0 a2_1 a2_2 a2_3 t211 (Int.tmod (wrap64 ((wrap64 (1 + t208)) + (wrap64 (t212 * (wrap64 (1 + t207)))))) 1073741789)).bind fun t214 => (if t214 = true then ((signature_Verify.f k t209 a3_0 a3_1 a3_2 a3_3 t211 (Int.tmod (wrap64 ((wrap64 (1 + t208)) + (wrap64 (t213 * (wrap64 (1 + t207)))))) 1073741789)).bind fun t215 => (awardingbodylaw41_SignatureLeaks.j0 k (wrap64 (1 + t207)) t212 t213 (Int.tmod (wrap64 ((wrap64 (1 + t208)) + (wrap64 (t212 * (wrap64 (1 + t207)))))) 1073741789) (Int.tmod (wrap64 ((wrap64 (1 + t208)) + (wrap64 (t213 * (wrap64 (1 + t207)))))) 1073741789) (!t215))) else (awardingbodylaw41_SignatureLeaks.j0 k (wrap64 (1 + t207)) t212 t213 (Int.tmod (wrap64 ((wrap64 (1 + t208)) + (wrap64 (t212 * (wrap64 (1 + t207)))))) 1073741789) (Int.tmod (wrap64 ((wrap64 (1 + t208)) + (wrap64 (t213 * (wrap64 (1 + t207)))))) 1073741789) true))) else (awardingbodylaw41_SignatureLeaks.j0 k (wrap64 (1 + t207)) t212 t213 (Int.tmod (wrap64 ((wrap64 (1 + t208)) + (wrap64 (t212 * (wrap64 (1 + t207)))))) 1073741789) (Int.tmod (wrap64 ((wrap64 (1 + t208)) + (wrap64 (t213 * (wrap64 (1 + t207)))))) 1073741789) true))))) = some r := H
  have A7 := Aside0.mk A70
  clear A70
  replace H := Option.bind_eq_some_iff.mp H
  obtain ⟨t211, A80, H⟩ := H
  replace H : ((signature_Challenge.f k t211 t209 a2_0 a2_1 a2_2 a2_3).bind fun t212 => ((signature_Challenge.f k t211 t209 a3_0 a3_1 a3_2 a3_3).bind fun t213 => (if t210 = 0 then ((signature_Verify.f k t209 a2_0 a2_1 a2_2 a2_3 t211 (Int.tmod (wrap64 ((wrap64 (1 + t208)) + (wrap64 (t212 * (wrap64 (1 + t207)))))) 1073741789)).bind fun t214 => (if t214 = true then ((signature_Verify.f k t209 a3_0 a3_1 a3_2 a3_3 t211 (Int.tmod (wrap64 ((wrap64 (1 + t208)) + (wrap64 (t213 * (wrap64 (1 + t207)))))) 1073741789)).bind fun t215 => (awardingbodylaw41_SignatureLeaks.j0 k (wrap64 (1 + t207)) t212 t213 (Int.tmod (wrap64 ((wrap64 (1 + t208)) + (wrap64 (t212 * (wrap64 (1 + t207)))))) 1073741789) (Int.tmod (wrap64 ((wrap64 (1 + t208)) + (wrap64 (t213 * (wrap64 (1 + t207)))))) 1073741789) (!t215))) else (awardingbodylaw41_SignatureLeaks.j0 k (wrap64 (1 + t207)) t212 t213 (Int.tmod (wrap64 ((wrap64 (1 + t208)) + (wrap64 (t212 * (wrap64 (1 + t207)))))) 1073741789) (Int.tmod (wrap64 ((wrap64 (1 + t208)) + (wrap64 (t213 * (wrap64 (1 + t207)))))) 1073741789) true))) else (awardingbodylaw41_SignatureLeaks.j0 k (wrap64 (1 + t207)) t212 t213 (Int.tmod (wrap64 ((wrap64 (1 + t208)) + (wrap64 (t212 * (wrap64 (1 + t207)))))) 1073741789) (Int.tmod (wrap64 ((wrap64 (1 + t208)) + (wrap64 (t213 * (wrap64 (1 + t207)))))) 1073741789) true)))) = some r := H
  have A8 := Aside0.mk A80
  clear A80
  replace H := Option.bind_eq_some_iff.mp H
  obtain ⟨t212, A90, H⟩ := H
  replace H : ((signature_Challenge.f k t211 t209 a3_0 a3_1 a3_2 a3_3).bind fun t213 => (if t210 = 0 then ((signature_Verify.f k t209 a2_0 a2_1 a2_2 a2_3 t211 (Int.tmod (wrap64 ((wrap64 (1 + t208)) + (wrap64 (t212 * (wrap64 (1 + t207)))))) 1073741789)).bind fun t214 => (if t214 = true then ((signature_Verify.f k t209 a3_0 a3_1 a3_2 a3_3 t211 (Int.tmod (wrap64 ((wrap64 (1 + t208)) + (wrap64 (t213 * (wrap64 (1 + t207)))))) 1073741789)).bind fun t215 => (awardingbodylaw41_SignatureLeaks.j0 k (wrap64 (1 + t207)) t212 t213 (Int.tmod (wrap64 ((wrap64 (1 + t208)) + (wrap64 (t212 * (wrap64 (1 + t207)))))) 1073741789) (Int.tmod (wrap64 ((wrap64 (1 + t208)) + (wrap64 (t213 * (wrap64 (1 + t207)))))) 1073741789) (!t215))) else (awardingbodylaw41_SignatureLeaks.j0 k (wrap64 (1 + t207)) t212 t213 (Int.tmod (wrap64 ((wrap64 (1 + t208)) + (wrap64 (t212 * (wrap64 (1 + t207)))))) 1073741789) (Int.tmod (wrap64 ((wrap64 (1 + t208)) + (wrap64 (t213 * (wrap64 (1 + t207)))))) 1073741789) true))) else (awardingbodylaw41_SignatureLeaks.j0 k (wrap64 (1 + t207)) t212 t213 (Int.tmod (wrap64 ((wrap64 (1 + t208)) + (wrap64 (t212 * (wrap64 (1 + t207)))))) 1073741789) (Int.tmod (wrap64 ((wrap64 (1 + t208)) + (wrap64 (t213 * (wrap64 (1 + t207)))))) 1073741789) true))) = some r := H
  have A9 := Aside0.mk A90
  clear A90
  replace H := Option.bind_eq_some_iff.mp H
  obtain ⟨t213, A100, H⟩ := H
  replace H : (if t210 = 0 then ((signature_Verify.f k t209 a2_0 a2_1 a2_2 a2_3 t211 (Int.tmod (wrap64 ((wrap64 (1 + t208)) + (wrap64 (t212 * (wrap64 (1 + t207)))))) 1073741789)).bind fun t214 => (if t214 = true then ((signature_Verify.f k t209 a3_0 a3_1 a3_2 a3_3 t211 (Int.tmod (wrap64 ((wrap64 (1 + t208)) + (wrap64 (t213 * (wrap64 (1 + t207)))))) 1073741789)).bind fun t215 => (awardingbodylaw41_SignatureLeaks.j0 k (wrap64 (1 + t207)) t212 t213 (Int.tmod (wrap64 ((wrap64 (1 + t208)) + (wrap64 (t212 * (wrap64 (1 + t207)))))) 1073741789) (Int.tmod (wrap64 ((wrap64 (1 + t208)) + (wrap64 (t213 * (wrap64 (1 + t207)))))) 1073741789) (!t215))) else (awardingbodylaw41_SignatureLeaks.j0 k (wrap64 (1 + t207)) t212 t213 (Int.tmod (wrap64 ((wrap64 (1 + t208)) + (wrap64 (t212 * (wrap64 (1 + t207)))))) 1073741789) (Int.tmod (wrap64 ((wrap64 (1 + t208)) + (wrap64 (t213 * (wrap64 (1 + t207)))))) 1073741789) true))) else (awardingbodylaw41_SignatureLeaks.j0 k (wrap64 (1 + t207)) t212 t213 (Int.tmod (wrap64 ((wrap64 (1 + t208)) + (wrap64 (t212 * (wrap64 (1 + t207)))))) 1073741789) (Int.tmod (wrap64 ((wrap64 (1 + t208)) + (wrap64 (t213 * (wrap64 (1 + t207)))))) 1073741789) true)) = some r := H
  have A10 := Aside0.mk A100
  clear A100
  have HC11 := Aside0.mk H
  clear H
  go_enter Try.func6, Try.ntmps6
  try go_wp2_with (first | ((with_reducible refine gate_dst (N := 6) rfl ?_); refine box_event ?hg (N := 6) ?hd (cs := #[.int .u32 a2_0, .int .u32 a2_1, .int .u32 a2_2, .int .u32 a2_3]) (t := 24) ?hr ?_; (case hd => rfl); (case hg => rfl); (case hr => first | (go_simp; done) | (go_simp; rfl)); intro gb205 hg w12 hbox hb; have n0_ := Aside0.mk (below_step (by repeat (first | (with_reducible first | exact HB.out | apply below_alloc | apply pw_below_drewN | apply below_drew1) | exact HB.out)) hb); have n1_ := Aside0.mk (hbox); have n2_ := Aside0.mk ((by rw [hg]; exact (below_size (by repeat (first | (with_reducible first | exact HB.out | apply below_alloc | apply pw_below_drewN | apply below_drew1) | exact HB.out))) : w.heap.size ≤ gb205)); have n3_ := Aside0.mk ((by rw [hg]; exact (below_size (by repeat (first | (with_reducible first | exact HB.out | apply below_alloc | apply pw_below_drewN | apply below_drew1) | exact HB.out))) : w.heap.size ≤ gb205)); clear HB; have HB := n0_; have BK205 := n1_; have GW205 := n2_; have GE205 := n3_; clear n0_ n1_ n2_ n3_; clear hb hbox hg) | ((with_reducible refine gate_dst (N := 7) rfl ?_); refine box_event ?hg (N := 7) ?hd (cs := #[.int .u32 a3_0, .int .u32 a3_1, .int .u32 a3_2, .int .u32 a3_3]) (t := 24) ?hr ?_; (case hd => rfl); (case hg => rfl); (case hr => first | (go_simp; done) | (go_simp; rfl)); intro gb206 hg w13 hbox hb; have n0_ := Aside0.mk (blk_below (g := gb205) (o := .cells #[.int .u32 a2_0, .int .u32 a2_1, .int .u32 a2_2, .int .u32 a2_3] 24 (0, 0)) (by (with_reducible repeat (first | refine blk_drewN ?_ _ | refine blk_drew ?_ | refine blk_alloc ?_ _)); exact BK205.out) hb); have n1_ := Aside0.mk (below_step (by repeat (first | (with_reducible first | exact HB.out | apply below_alloc | apply pw_below_drewN | apply below_drew1 | refine below_set ?_ GE205.out) | exact HB.out)) hb); have n2_ := Aside0.mk (hbox); have n3_ := Aside0.mk ((by rw [hg]; exact (below_size (by repeat (first | (with_reducible first | exact HB.out | apply below_alloc | apply pw_below_drewN | apply below_drew1 | refine below_set ?_ GE205.out) | exact HB.out))) : w.heap.size ≤ gb206)); have n4_ := Aside0.mk ((by rw [hg]; exact (below_size (by repeat (first | (with_reducible first | exact HB.out | apply below_alloc | apply pw_below_drewN | apply below_drew1 | refine below_set ?_ GE205.out) | exact HB.out))) : w.heap.size ≤ gb206)); have n5_ := Aside0.mk ((by rw [hg]; exact Nat.ne_of_lt (blk_lt (g := gb205) (o := .cells #[.int .u32 a2_0, .int .u32 a2_1, .int .u32 a2_2, .int .u32 a2_3] 24 (0, 0)) (by (with_reducible repeat (first | refine blk_drewN ?_ _ | refine blk_drew ?_ | refine blk_alloc ?_ _)); exact BK205.out)) : gb205 ≠ gb206)); have n6_ := Aside0.mk ((by rw [hg]; exact Nat.ne_of_gt (blk_lt (g := gb205) (o := .cells #[.int .u32 a2_0, .int .u32 a2_1, .int .u32 a2_2, .int .u32 a2_3] 24 (0, 0)) (by (with_reducible repeat (first | refine blk_drewN ?_ _ | refine blk_drew ?_ | refine blk_alloc ?_ _)); exact BK205.out)) : gb206 ≠ gb205)); clear BK205; clear HB; have BK205 := n0_; have HB := n1_; have BK206 := n2_; have GW206 := n3_; have GE206 := n4_; have NB205_206 := n5_; have NB206_205 := n6_; clear n0_ n1_ n2_ n3_ n4_ n5_ n6_; clear hb hbox hg) | ((with_reducible refine gate_callee (f := 8) rfl ?_); refine goesL_ (some 24) rfl rfl Try.func8 (by kernel_rfl) rfl #[.int .i64 a0, .int .i64 1073741788] rfl (by (try simp only [List.map_toArray, List.map_cons, List.map_nil]); first | done | rfl | (simp only [List.length_drop, List.length_take]; rfl)) ?_; (with_reducible refine (awardingbodymark_Mod.calls a0 1073741788 t207 _ A5.out).mono ?_); rintro e w' ⟨rfl, ⟨nd, rfl⟩⟩; refine ⟨_, rfl, ?_⟩) | ((with_reducible refine gate_callee (f := 8) rfl ?_); refine goesL_ (some 27) rfl rfl Try.func8 (by kernel_rfl) rfl #[.int .i64 a1, .int .i64 1073741788] rfl (by (try simp only [List.map_toArray, List.map_cons, List.map_nil]); first | done | rfl | (simp only [List.length_drop, List.length_take]; rfl)) ?_; (with_reducible refine (awardingbodymark_Mod.calls a1 1073741788 t208 _ A6.out).mono ?_); rintro e w' ⟨rfl, ⟨nd, rfl⟩⟩; refine ⟨_, rfl, ?_⟩) | ((with_reducible refine gate_callee (f := 9) rfl ?_); refine goesL_ (some 31) rfl rfl Try.func9 (by kernel_rfl) rfl #[.int .i64 (wrap64 (1 + t207))] rfl (by (try simp only [List.map_toArray, List.map_cons, List.map_nil]); first | done | rfl | (simp only [List.length_drop, List.length_take]; rfl)) ?_; (with_reducible refine (signature_Public.calls k (wrap64 (1 + t207)) t209 t210 _ A7.out).mono ?_); rintro e w' ⟨rfl, ⟨nd, rfl⟩⟩; refine ⟨_, rfl, ?_⟩) | ((with_reducible refine gate_callee (f := 15) rfl ?_); refine goesL_ (some 35) rfl rfl Try.func15 (by kernel_rfl) rfl #[.int .i64 4, .int .i64 (wrap64 (1 + t208))] rfl (by (try simp only [List.map_toArray, List.map_cons, List.map_nil]); first | done | rfl | (simp only [List.length_drop, List.length_take]; rfl)) ?_; (with_reducible refine (signature_Power.calls k 4 (wrap64 (1 + t208)) t211 _ A8.out).mono ?_); rintro e w' ⟨rfl, ⟨nd, rfl⟩⟩; refine ⟨_, rfl, ?_⟩))
  (try (rw [drewN_self w13]; generalize hq_ : World.drewN w13 _ = w13; have n0_ : Aside0 (w13.heap[gb205]? = some (.cells #[.int .u32 a2_0, .int .u32 a2_1, .int .u32 a2_2, .int .u32 a2_3] 24 (0, 0))) := ⟨by rw [← hq_]; exact (by (with_reducible repeat (first | refine blk_drewN ?_ _ | refine blk_drew ?_ | refine blk_alloc ?_ _)); exact BK205.out)⟩; have n1_ : Aside0 (w13.heap[gb206]? = some (.cells #[.int .u32 a3_0, .int .u32 a3_1, .int .u32 a3_2, .int .u32 a3_3] 24 (0, 0))) := ⟨by rw [← hq_]; exact (by (with_reducible repeat (first | refine blk_drewN ?_ _ | refine blk_drew ?_ | refine blk_alloc ?_ _)); exact BK206.out)⟩; have n2_ : Aside0 (Below w.heap.size w w13) := ⟨by rw [← hq_]; exact (by repeat (first | (with_reducible first | exact HB.out | apply below_alloc | apply pw_below_drewN | apply below_drew1 | refine below_set ?_ GE205.out | refine below_set ?_ GE206.out) | exact HB.out))⟩; clear BK205 BK206 HB hq_; have BK205 := n0_; have BK206 := n1_; have HB := n2_; clear n0_ n1_ n2_))
  have n0_ := Aside0.mk (blk_drew BK205.out)
  have n1_ := Aside0.mk (blk_drew BK206.out)
  have n2_ := Aside0.mk (below_drew1 HB.out)
  clear BK205
  clear BK206
  clear HB
  have BK205 := n0_
  have BK206 := n1_
  have HB := n2_
  clear n0_ n1_ n2_
  refine start_ (n := 10) (S := fun w' => w'.cell? ⟨gb205, 0, none⟩ = some (.int .u32 a2_0) ∧ w'.cell? ⟨gb205, 1, none⟩ = some (.int .u32 a2_1) ∧ w'.cell? ⟨gb205, 2, none⟩ = some (.int .u32 a2_2) ∧ w'.cell? ⟨gb205, 3, none⟩ = some (.int .u32 a2_3) ∧ w'.cell? ⟨gb206, 0, none⟩ = some (.int .u32 a3_0) ∧ w'.cell? ⟨gb206, 1, none⟩ = some (.int .u32 a3_1) ∧ w'.cell? ⟨gb206, 2, none⟩ = some (.int .u32 a3_2) ∧ w'.cell? ⟨gb206, 3, none⟩ = some (.int .u32 a3_3)) (ds := []) #[false, false, false, false, false, false, false, false, false, false] (by kernel_rfl) rfl rfl ⟨(blk_cell BK205.out 0).trans rfl, (blk_cell BK205.out 1).trans rfl, (blk_cell BK205.out 2).trans rfl, (blk_cell BK205.out 3).trans rfl, (blk_cell BK206.out 0).trans rfl, (blk_cell BK206.out 1).trans rfl, (blk_cell BK206.out 2).trans rfl, (blk_cell BK206.out 3).trans rfl⟩ (fun hHeld => ?_); refine with_tabW awardingbodylaw41_SignatureLeaks.tab4 awardingbodylaw41_SignatureLeaks.bits4 (fun HT_ HW_ => ?_)
  generalize w13.drew = w14 at BK205 BK206 HB hHeld ⊢
  refine pure_ (i := 0) (N := some 36) (v := ?_) (a' := ?_) #[true, false, false, false, false, false, false, false, false, false] rfl rfl (any_of HT_.out (by kernel_rfl)) (fun _ _ _ h => h) (Or.inl ⟨by rfl, ?_⟩) ?_ ?_
  rotate_left
  · intro w'
    go_simp
    with_reducible rfl
  rotate_left
  · simp only [Act.put, List.setIfInBounds_toArray, List.set_cons_zero, List.set_cons_succ, i64_w, i32_w]
    rfl
  refine pure_ (i := 1) (N := some 37) (v := ?_) (a' := ?_) #[true, true, false, false, false, false, false, false, false, false] rfl rfl (any_of HT_.out (by kernel_rfl)) (fun _ _ _ h => h) (Or.inl ⟨by rfl, ?_⟩) ?_ ?_
  rotate_left
  · intro w'
    go_simp
    with_reducible rfl
  rotate_left
  · simp only [Act.put, List.setIfInBounds_toArray, List.set_cons_zero, List.set_cons_succ, i64_w, i32_w]
    rfl
  refine pure_ (i := 4) (N := some 40) (v := ?_) (a' := ?_) #[true, true, false, false, true, false, false, false, false, false] rfl rfl (any_of HT_.out (by kernel_rfl)) (fun _ _ _ h => h) (Or.inl ⟨by rfl, ?_⟩) ?_ ?_
  rotate_left
  · intro w'
    go_simp
    with_reducible rfl
  rotate_left
  · simp only [Act.put, List.setIfInBounds_toArray, List.set_cons_zero, List.set_cons_succ, i64_w, i32_w]
    rfl
  refine pure_ (i := 5) (N := some 41) (v := ?_) (a' := ?_) #[true, true, false, false, true, true, false, false, false, false] rfl rfl (any_of HT_.out (by kernel_rfl)) (fun _ _ _ h => h) (Or.inl ⟨by rfl, ?_⟩) ?_ ?_
  rotate_left
  · intro w'
    go_simp
    with_reducible rfl
  rotate_left
  · simp only [Act.put, List.setIfInBounds_toArray, List.set_cons_zero, List.set_cons_succ, i64_w, i32_w]
    rfl
  refine take_ (i := 2) (N := some 38) (v := ?_) (a' := ?_) #[true, true, true, false, true, true, false, false, false, false] rfl rfl (take_ofW HT_.out HW_.out (by kernel_rfl)) (fun _ _ _ h => h) (Or.inl ⟨by rfl, ?_⟩) hHeld ?_ ?_
  rotate_left
  · rintro w' ⟨s0, s1, s2, s3, s4, s5, s6, s7⟩
    go_simp
    with_reducible rfl
  rotate_left
  · simp only [Act.put, List.setIfInBounds_toArray, List.set_cons_zero, List.set_cons_succ, i64_w, i32_w]
    rfl
  refine take_ (i := 6) (N := some 42) (v := ?_) (a' := ?_) #[true, true, true, false, true, true, true, false, false, false] rfl rfl (take_ofW HT_.out HW_.out (by kernel_rfl)) (fun _ _ _ h => h) (Or.inl ⟨by rfl, ?_⟩) hHeld ?_ ?_
  rotate_left
  · rintro w' ⟨s0, s1, s2, s3, s4, s5, s6, s7⟩
    go_simp
    with_reducible rfl
  rotate_left
  · simp only [Act.put, List.setIfInBounds_toArray, List.set_cons_zero, List.set_cons_succ, i64_w, i32_w]
    rfl
  refine one_ (i := 3) (N := some 39) #[true, true, true, true, true, true, true, false, false, false] rfl rfl (one_of HT_.out (by kernel_rfl)) (by decide) (fun K hK => ?_)
  refine goes_ Try.func17 (by kernel_rfl) rfl #[.int .i64 t211, .int .i64 t209, .agg #[.int .u32 a2_0, .int .u32 a2_1, .int .u32 a2_2, .int .u32 a2_3]] (by rfl) rfl rfl (by (try simp only [List.map_toArray, List.map_cons, List.map_nil]); first | done | rfl | (simp only [List.length_drop, List.length_take]; rfl)) ?_
  with_reducible refine (signature_Challenge.calls k t211 t209 a2_0 a2_1 a2_2 a2_3 t212 _ A9.out).mono ?_
  rintro e w15 ⟨rfl, hb⟩
  refine ⟨_, rfl, ?_⟩
  have n0_ := Aside0.mk (blk_below (g := gb205) (o := .cells #[.int .u32 a2_0, .int .u32 a2_1, .int .u32 a2_2, .int .u32 a2_3] 24 (0, 0)) (by (with_reducible repeat (first | refine blk_drewN ?_ _ | refine blk_drew ?_ | refine blk_alloc ?_ _)); exact BK205.out) hb)
  have n1_ := Aside0.mk (blk_below (g := gb206) (o := .cells #[.int .u32 a3_0, .int .u32 a3_1, .int .u32 a3_2, .int .u32 a3_3] 24 (0, 0)) (by (with_reducible repeat (first | refine blk_drewN ?_ _ | refine blk_drew ?_ | refine blk_alloc ?_ _)); exact BK206.out) hb)
  have n2_ := Aside0.mk (below_step (by repeat (first | (with_reducible first | exact HB.out | apply below_alloc | apply pw_below_drewN | apply below_drew1 | refine below_set ?_ GE205.out | refine below_set ?_ GE206.out) | exact HB.out)) hb)
  clear BK205
  clear BK206
  clear HB
  have BK205 := n0_
  have BK206 := n1_
  have HB := n2_
  clear n0_ n1_ n2_
  (try clear hb)
  (try clear hb2)
  (try clear hk)
  (try clear hi)
  refine hK.out _ _ ⟨(blk_cell BK205.out 0).trans rfl, (blk_cell BK205.out 1).trans rfl, (blk_cell BK205.out 2).trans rfl, (blk_cell BK205.out 3).trans rfl, (blk_cell BK206.out 0).trans rfl, (blk_cell BK206.out 1).trans rfl, (blk_cell BK206.out 2).trans rfl, (blk_cell BK206.out 3).trans rfl⟩ (fun hHeld => ?_)
  clear hK K
  refine norm_ (a' := ?_) ?_ ?_
  rotate_left
  · show Act.put _ (some 39) _ = _
    simp only [Act.put, List.setIfInBounds_toArray, List.set_cons_zero, List.set_cons_succ, i64_w, i32_w]
    rfl
  refine one_ (i := 7) (N := some 43) #[true, true, true, true, true, true, true, true, false, false] rfl rfl (one_of HT_.out (by kernel_rfl)) (by decide) (fun K hK => ?_)
  refine goes_ Try.func17 (by kernel_rfl) rfl #[.int .i64 t211, .int .i64 t209, .agg #[.int .u32 a3_0, .int .u32 a3_1, .int .u32 a3_2, .int .u32 a3_3]] (by rfl) rfl rfl (by (try simp only [List.map_toArray, List.map_cons, List.map_nil]); first | done | rfl | (simp only [List.length_drop, List.length_take]; rfl)) ?_
  with_reducible refine (signature_Challenge.calls k t211 t209 a3_0 a3_1 a3_2 a3_3 t213 _ A10.out).mono ?_
  rintro e w16 ⟨rfl, hb⟩
  refine ⟨_, rfl, ?_⟩
  have n0_ := Aside0.mk (blk_below (g := gb205) (o := .cells #[.int .u32 a2_0, .int .u32 a2_1, .int .u32 a2_2, .int .u32 a2_3] 24 (0, 0)) (by (with_reducible repeat (first | refine blk_drewN ?_ _ | refine blk_drew ?_ | refine blk_alloc ?_ _)); exact BK205.out) hb)
  have n1_ := Aside0.mk (blk_below (g := gb206) (o := .cells #[.int .u32 a3_0, .int .u32 a3_1, .int .u32 a3_2, .int .u32 a3_3] 24 (0, 0)) (by (with_reducible repeat (first | refine blk_drewN ?_ _ | refine blk_drew ?_ | refine blk_alloc ?_ _)); exact BK206.out) hb)
  have n2_ := Aside0.mk (below_step (by repeat (first | (with_reducible first | exact HB.out | apply below_alloc | apply pw_below_drewN | apply below_drew1 | refine below_set ?_ GE205.out | refine below_set ?_ GE206.out) | exact HB.out)) hb)
  clear BK205
  clear BK206
  clear HB
  have BK205 := n0_
  have BK206 := n1_
  have HB := n2_
  clear n0_ n1_ n2_
  (try clear hb)
  (try clear hb2)
  (try clear hk)
  (try clear hi)
  refine hK.out _ _ ⟨(blk_cell BK205.out 0).trans rfl, (blk_cell BK205.out 1).trans rfl, (blk_cell BK205.out 2).trans rfl, (blk_cell BK205.out 3).trans rfl, (blk_cell BK206.out 0).trans rfl, (blk_cell BK206.out 1).trans rfl, (blk_cell BK206.out 2).trans rfl, (blk_cell BK206.out 3).trans rfl⟩ (fun hHeld => ?_)
  clear hK K
  refine norm_ (a' := ?_) ?_ ?_
  rotate_left
  · show Act.put _ (some 43) _ = _
    simp only [Act.put, List.setIfInBounds_toArray, List.set_cons_zero, List.set_cons_succ, i64_w, i32_w]
    rfl
  refine pure_ (i := 8) (N := some 14) (v := ?_) (a' := ?_) #[true, true, true, true, true, true, true, true, true, false] rfl rfl (any_of HT_.out (by kernel_rfl)) (fun _ _ _ h => h) (Or.inl ⟨by rfl, ?_⟩) ?_ ?_
  rotate_left
  · intro w'
    go_simp
    with_reducible rfl
  rotate_left
  · simp only [Act.put, List.setIfInBounds_toArray, List.set_cons_zero, List.set_cons_succ, i64_w, i32_w]
    rfl
  refine pure_ (i := 9) (N := some 15) (v := ?_) (a' := ?_) #[true, true, true, true, true, true, true, true, true, true] rfl rfl (any_of HT_.out (by kernel_rfl)) (fun _ _ _ h => h) (Or.inl ⟨by rfl, ?_⟩) ?_ ?_
  rotate_left
  · intro w'
    go_simp
    with_reducible rfl
  rotate_left
  · simp only [Act.put, List.setIfInBounds_toArray, List.set_cons_zero, List.set_cons_succ, i64_w, i32_w]
    rfl
  refine done_ (done_of HT_.out (by kernel_rfl)) ?_
  go_upto_region 6 with (fail)
  go_cut [75] (fun v75 wc => ∃ (kq : Nat) (x75_10 : Bool), v75 = .bool x75_10 ∧ Aside0 (awardingbodylaw41_SignatureLeaks.j0 kq (wrap64 (1 + t207)) t212 t213 (Int.tmod (wrap64 ((wrap64 (1 + t208)) + (wrap64 (t212 * (wrap64 (1 + t207)))))) 1073741789) (Int.tmod (wrap64 ((wrap64 (1 + t208)) + (wrap64 (t213 * (wrap64 (1 + t207)))))) 1073741789) x75_10 = some r) ∧ Aside0 (kq ≤ k) ∧ Aside0 (wc.heap[gb205]? = some (.cells #[.int .u32 a2_0, .int .u32 a2_1, .int .u32 a2_2, .int .u32 a2_3] 24 (0, 0))) ∧ Aside0 (wc.heap[gb206]? = some (.cells #[.int .u32 a3_0, .int .u32 a3_1, .int .u32 a3_2, .int .u32 a3_3] 24 (0, 0))) ∧ Aside0 (Below w.heap.size w wc))
  case first =>
    have H := HC11.out
    clear HC11
    by_cases c17 : t210 = 0
    · rw [if_pos c17] at H
      have c17b0 : (t210 == 0) = true := beq_iff_eq.mpr c17
      have c17b1 : (t210 != 0) = false := bne_eq_false_iff_eq.mpr c17
      clear c17
      (first | rw [c17b0] | (simp only [i64_w, i32_w]; rw [c17b0]) | skip)
      replace H := Option.bind_eq_some_iff.mp H
      obtain ⟨t214, A180, H⟩ := H
      replace H : (if t214 = true then ((signature_Verify.f k t209 a3_0 a3_1 a3_2 a3_3 t211 (Int.tmod (wrap64 ((wrap64 (1 + t208)) + (wrap64 (t213 * (wrap64 (1 + t207)))))) 1073741789)).bind fun t215 => (awardingbodylaw41_SignatureLeaks.j0 k (wrap64 (1 + t207)) t212 t213 (Int.tmod (wrap64 ((wrap64 (1 + t208)) + (wrap64 (t212 * (wrap64 (1 + t207)))))) 1073741789) (Int.tmod (wrap64 ((wrap64 (1 + t208)) + (wrap64 (t213 * (wrap64 (1 + t207)))))) 1073741789) (!t215))) else (awardingbodylaw41_SignatureLeaks.j0 k (wrap64 (1 + t207)) t212 t213 (Int.tmod (wrap64 ((wrap64 (1 + t208)) + (wrap64 (t212 * (wrap64 (1 + t207)))))) 1073741789) (Int.tmod (wrap64 ((wrap64 (1 + t208)) + (wrap64 (t213 * (wrap64 (1 + t207)))))) 1073741789) true)) = some r := H
      have A18 := Aside0.mk A180
      clear A180
      by_cases c19 : t214 = true
      · subst c19
        have H1 : ((signature_Verify.f k t209 a3_0 a3_1 a3_2 a3_3 t211 (Int.tmod (wrap64 ((wrap64 (1 + t208)) + (wrap64 (t213 * (wrap64 (1 + t207)))))) 1073741789)).bind fun t215 => (awardingbodylaw41_SignatureLeaks.j0 k (wrap64 (1 + t207)) t212 t213 (Int.tmod (wrap64 ((wrap64 (1 + t208)) + (wrap64 (t212 * (wrap64 (1 + t207)))))) 1073741789) (Int.tmod (wrap64 ((wrap64 (1 + t208)) + (wrap64 (t213 * (wrap64 (1 + t207)))))) 1073741789) (!t215))) = some r := by rw [if_pos rfl] at H; exact H
        clear H
        have H := H1
        clear H1
        replace H := Option.bind_eq_some_iff.mp H
        obtain ⟨t215, A200, H⟩ := H
        replace H : (awardingbodylaw41_SignatureLeaks.j0 k (wrap64 (1 + t207)) t212 t213 (Int.tmod (wrap64 ((wrap64 (1 + t208)) + (wrap64 (t212 * (wrap64 (1 + t207)))))) 1073741789) (Int.tmod (wrap64 ((wrap64 (1 + t208)) + (wrap64 (t213 * (wrap64 (1 + t207)))))) 1073741789) (!t215)) = some r := H
        have A20 := Aside0.mk A200
        clear A200
        have H' := Aside0.mk H
        clear H
        have hnb21 := NB205_206.out
        have hnc21 := NB206_205.out
        have hcz22_0 : w16.cell? ⟨gb205, 0, none⟩ = some (.int .u32 a2_0) := (blk_cell BK205.out 0).trans rfl
        have hcz22_1 : w16.cell? ⟨gb205, 1, none⟩ = some (.int .u32 a2_1) := (blk_cell BK205.out 1).trans rfl
        have hcz22_2 : w16.cell? ⟨gb205, 2, none⟩ = some (.int .u32 a2_2) := (blk_cell BK205.out 2).trans rfl
        have hcz22_3 : w16.cell? ⟨gb205, 3, none⟩ = some (.int .u32 a2_3) := (blk_cell BK205.out 3).trans rfl
        have hfz22_0 := blk_frozen BK205.out 0
        have hfz22_1 := blk_frozen BK205.out 1
        have hfz22_2 := blk_frozen BK205.out 2
        have hfz22_3 := blk_frozen BK205.out 3
        go_wp2_with (first | (go_at_call 19; (with_reducible refine (signature_Verify.calls k t209 a2_0 a2_1 a2_2 a2_3 t211 (Int.tmod (wrap64 ((wrap64 (1 + t208)) + (wrap64 (t212 * (wrap64 (1 + t207)))))) 1073741789) true _ A18.out).mono ?_); rintro e w23 ⟨rfl, hb⟩; have n0_ := Aside0.mk (blk_below (g := gb205) (o := .cells #[.int .u32 a2_0, .int .u32 a2_1, .int .u32 a2_2, .int .u32 a2_3] 24 (0, 0)) (by (with_reducible repeat (first | refine blk_drewN ?_ _ | refine blk_drew ?_ | refine blk_alloc ?_ _)); exact BK205.out) hb); have n1_ := Aside0.mk (blk_below (g := gb206) (o := .cells #[.int .u32 a3_0, .int .u32 a3_1, .int .u32 a3_2, .int .u32 a3_3] 24 (0, 0)) (by (with_reducible repeat (first | refine blk_drewN ?_ _ | refine blk_drew ?_ | refine blk_alloc ?_ _)); exact BK206.out) hb); have n2_ := Aside0.mk (below_step (by repeat (first | (with_reducible first | exact HB.out | apply below_alloc | apply pw_below_drewN | apply below_drew1 | refine below_set ?_ GE205.out | refine below_set ?_ GE206.out) | exact HB.out)) hb); clear BK205; clear BK206; clear HB; have BK205 := n0_; have BK206 := n1_; have HB := n2_; clear n0_ n1_ n2_; (try clear hb); (try clear hb2); (try clear hk); (try clear hi); have hcz24_0 : w23.cell? ⟨gb206, 0, none⟩ = some (.int .u32 a3_0) := (blk_cell BK206.out 0).trans rfl; have hcz24_1 : w23.cell? ⟨gb206, 1, none⟩ = some (.int .u32 a3_1) := (blk_cell BK206.out 1).trans rfl; have hcz24_2 : w23.cell? ⟨gb206, 2, none⟩ = some (.int .u32 a3_2) := (blk_cell BK206.out 2).trans rfl; have hcz24_3 : w23.cell? ⟨gb206, 3, none⟩ = some (.int .u32 a3_3) := (blk_cell BK206.out 3).trans rfl; have hfz24_0 := blk_frozen BK206.out 0; have hfz24_1 := blk_frozen BK206.out 1; have hfz24_2 := blk_frozen BK206.out 2; have hfz24_3 := blk_frozen BK206.out 3) | (go_at_call 19; (with_reducible refine (signature_Verify.calls k t209 a3_0 a3_1 a3_2 a3_3 t211 (Int.tmod (wrap64 ((wrap64 (1 + t208)) + (wrap64 (t213 * (wrap64 (1 + t207)))))) 1073741789) t215 _ A20.out).mono ?_); rintro e w25 ⟨rfl, hb⟩; have n0_ := Aside0.mk (blk_below (g := gb205) (o := .cells #[.int .u32 a2_0, .int .u32 a2_1, .int .u32 a2_2, .int .u32 a2_3] 24 (0, 0)) (by (with_reducible repeat (first | refine blk_drewN ?_ _ | refine blk_drew ?_ | refine blk_alloc ?_ _)); exact BK205.out) hb); have n1_ := Aside0.mk (blk_below (g := gb206) (o := .cells #[.int .u32 a3_0, .int .u32 a3_1, .int .u32 a3_2, .int .u32 a3_3] 24 (0, 0)) (by (with_reducible repeat (first | refine blk_drewN ?_ _ | refine blk_drew ?_ | refine blk_alloc ?_ _)); exact BK206.out) hb); have n2_ := Aside0.mk (below_step (by repeat (first | (with_reducible first | exact HB.out | apply below_alloc | apply pw_below_drewN | apply below_drew1 | refine below_set ?_ GE205.out | refine below_set ?_ GE206.out) | exact HB.out)) hb); clear BK205; clear BK206; clear HB; have BK205 := n0_; have BK206 := n1_; have HB := n2_; clear n0_ n1_ n2_; (try clear hb); (try clear hb2); (try clear hk); (try clear hi)))
        go_meet
        case rel => exact ⟨_, (!t215), (by first | rfl | (simp; done) | (simp [*]; done)), H', ⟨by first | omega | exact Nat.le_refl _⟩, ⟨by (with_reducible repeat (first | refine blk_drewN ?_ _ | refine blk_drew ?_ | refine blk_alloc ?_ _)); exact BK205.out⟩, ⟨by (with_reducible repeat (first | refine blk_drewN ?_ _ | refine blk_drew ?_ | refine blk_alloc ?_ _)); exact BK206.out⟩, ⟨by repeat (first | (with_reducible first | exact HB.out | apply below_alloc | apply pw_below_drewN | apply below_drew1 | refine below_set ?_ GE205.out | refine below_set ?_ GE206.out) | exact HB.out)⟩⟩
      · replace c19 := Bool.eq_false_iff.mpr c19
        subst c19
        have H1 : (awardingbodylaw41_SignatureLeaks.j0 k (wrap64 (1 + t207)) t212 t213 (Int.tmod (wrap64 ((wrap64 (1 + t208)) + (wrap64 (t212 * (wrap64 (1 + t207)))))) 1073741789) (Int.tmod (wrap64 ((wrap64 (1 + t208)) + (wrap64 (t213 * (wrap64 (1 + t207)))))) 1073741789) true) = some r := by rw [if_neg (show ¬ (false = true) by decide)] at H; exact H
        clear H
        have H := H1
        clear H1
        have H' := Aside0.mk H
        clear H
        have hnb26 := NB205_206.out
        have hnc26 := NB206_205.out
        have hcz27_0 : w16.cell? ⟨gb205, 0, none⟩ = some (.int .u32 a2_0) := (blk_cell BK205.out 0).trans rfl
        have hcz27_1 : w16.cell? ⟨gb205, 1, none⟩ = some (.int .u32 a2_1) := (blk_cell BK205.out 1).trans rfl
        have hcz27_2 : w16.cell? ⟨gb205, 2, none⟩ = some (.int .u32 a2_2) := (blk_cell BK205.out 2).trans rfl
        have hcz27_3 : w16.cell? ⟨gb205, 3, none⟩ = some (.int .u32 a2_3) := (blk_cell BK205.out 3).trans rfl
        have hfz27_0 := blk_frozen BK205.out 0
        have hfz27_1 := blk_frozen BK205.out 1
        have hfz27_2 := blk_frozen BK205.out 2
        have hfz27_3 := blk_frozen BK205.out 3
        go_wp2_with (first | (go_at_call 19; (with_reducible refine (signature_Verify.calls k t209 a2_0 a2_1 a2_2 a2_3 t211 (Int.tmod (wrap64 ((wrap64 (1 + t208)) + (wrap64 (t212 * (wrap64 (1 + t207)))))) 1073741789) false _ A18.out).mono ?_); rintro e w28 ⟨rfl, hb⟩; have n0_ := Aside0.mk (blk_below (g := gb205) (o := .cells #[.int .u32 a2_0, .int .u32 a2_1, .int .u32 a2_2, .int .u32 a2_3] 24 (0, 0)) (by (with_reducible repeat (first | refine blk_drewN ?_ _ | refine blk_drew ?_ | refine blk_alloc ?_ _)); exact BK205.out) hb); have n1_ := Aside0.mk (blk_below (g := gb206) (o := .cells #[.int .u32 a3_0, .int .u32 a3_1, .int .u32 a3_2, .int .u32 a3_3] 24 (0, 0)) (by (with_reducible repeat (first | refine blk_drewN ?_ _ | refine blk_drew ?_ | refine blk_alloc ?_ _)); exact BK206.out) hb); have n2_ := Aside0.mk (below_step (by repeat (first | (with_reducible first | exact HB.out | apply below_alloc | apply pw_below_drewN | apply below_drew1 | refine below_set ?_ GE205.out | refine below_set ?_ GE206.out) | exact HB.out)) hb); clear BK205; clear BK206; clear HB; have BK205 := n0_; have BK206 := n1_; have HB := n2_; clear n0_ n1_ n2_; (try clear hb); (try clear hb2); (try clear hk); (try clear hi)))
        go_meet
        case rel => exact ⟨_, (true), (by first | rfl | (simp; done) | (simp [*]; done)), H', ⟨by first | omega | exact Nat.le_refl _⟩, ⟨by (with_reducible repeat (first | refine blk_drewN ?_ _ | refine blk_drew ?_ | refine blk_alloc ?_ _)); exact BK205.out⟩, ⟨by (with_reducible repeat (first | refine blk_drewN ?_ _ | refine blk_drew ?_ | refine blk_alloc ?_ _)); exact BK206.out⟩, ⟨by repeat (first | (with_reducible first | exact HB.out | apply below_alloc | apply pw_below_drewN | apply below_drew1 | refine below_set ?_ GE205.out | refine below_set ?_ GE206.out) | exact HB.out)⟩⟩
    · rw [if_neg c17] at H
      have c17b0 : (t210 == 0) = false := beq_eq_false_iff_ne.mpr c17
      have c17b1 : (t210 != 0) = true := bne_iff_ne.mpr c17
      (first | rw [c17b0] | (simp only [i64_w, i32_w]; rw [c17b0]) | skip)
      have H' := Aside0.mk H
      clear H
      go_wp2
      go_meet
      case rel => exact ⟨_, (true), (by first | rfl | (simp; done) | (simp [*]; done)), H', ⟨by first | omega | exact Nat.le_refl _⟩, ⟨by (with_reducible repeat (first | refine blk_drewN ?_ _ | refine blk_drew ?_ | refine blk_alloc ?_ _)); exact BK205.out⟩, ⟨by (with_reducible repeat (first | refine blk_drewN ?_ _ | refine blk_drew ?_ | refine blk_alloc ?_ _)); exact BK206.out⟩, ⟨by repeat (first | (with_reducible first | exact HB.out | apply below_alloc | apply pw_below_drewN | apply below_drew1 | refine below_set ?_ GE205.out | refine below_set ?_ GE206.out) | exact HB.out)⟩⟩
  case rest =>
    clear HC11
    try clear c1
    try clear c2
    try clear p2
    try clear c6
    try clear p6
    try clear c8
    try clear c9
    try clear c15
    try clear c17
    try clear c17b0
    try clear c17b1
    try clear c19
    try clear c21
    try clear c26
    try clear hcz22_0
    try clear hcz22_1
    try clear hcz22_2
    try clear hcz22_3
    try clear hcz24_0
    try clear hcz24_1
    try clear hcz24_2
    try clear hcz24_3
    try clear hcz27_0
    try clear hcz27_1
    try clear hcz27_2
    try clear hcz27_3
    try clear hfz22_0
    try clear hfz22_1
    try clear hfz22_2
    try clear hfz22_3
    try clear hfz24_0
    try clear hfz24_1
    try clear hfz24_2
    try clear hfz24_3
    try clear hfz27_0
    try clear hfz27_1
    try clear hfz27_2
    try clear hfz27_3
    obtain ⟨kq, x75_10, rfl, HA, HJ10, BK205, BK206, HB⟩ := hcut
    cases kq with
    | zero => exact absurd HA.out (by simp [awardingbodylaw41_SignatureLeaks.j0])
    | succ kj10 =>
      have H := HA.out
      clear HA
      simp only [awardingbodylaw41_SignatureLeaks.j0] at H
      by_cases c29 : x75_10 = true
      · subst c29
        have H1 : (some false) = some r := by rw [if_pos rfl] at H; exact H
        clear H
        have H := H1
        clear H1
        obtain rfl := Option.some.inj H
        go_wp2
        go_ret
        exact ⟨by first | rfl | (simp [errW_none, errW_some] <;> rfl) | (simp [*, errW_none, errW_some] <;> rfl), by repeat (first | (with_reducible first | exact HB.out | apply below_alloc | apply pw_below_drewN | apply below_drew1 | refine below_set ?_ GE205.out | refine below_set ?_ GE206.out) | exact HB.out)⟩
      · replace c29 := Bool.eq_false_iff.mpr c29
        subst c29
        have H1 : (if t212 = t213 then ((awardingbodylaw41_sane.f kj10).bind fun t216 => (some t216)) else ((awardingbodymark_Mod.f (wrap64 ((Int.tmod (wrap64 ((wrap64 (1 + t208)) + (wrap64 (t212 * (wrap64 (1 + t207)))))) 1073741789) - (Int.tmod (wrap64 ((wrap64 (1 + t208)) + (wrap64 (t213 * (wrap64 (1 + t207)))))) 1073741789))) 1073741789).bind fun t217 => ((awardingbodymark_Mod.f (wrap64 (t212 - t213)) 1073741789).bind fun t218 => (awardingbodylaw41_SignatureLeaks.l0 kj10 (wrap64 (1 + t207)) t217 1 t218 1073741787)))) = some r := by rw [if_neg (show ¬ (false = true) by decide)] at H; exact H
        clear H
        have H := H1
        clear H1
        by_cases c30 : t212 = t213
        · rw [if_pos c30] at H
          have c30b0 : (t212 == t213) = true := beq_iff_eq.mpr c30
          have c30b1 : (t212 != t213) = false := bne_eq_false_iff_eq.mpr c30
          clear c30
          replace H := Option.bind_eq_some_iff.mp H
          obtain ⟨t216, A310, H⟩ := H
          replace H : (some t216) = some r := H
          have A31 := Aside0.mk A310
          clear A310
          obtain rfl := Option.some.inj H
          go_wp2_with (first | ((with_reducible refine gate_callee (f := 21) rfl ?_); refine goesL_ (some 79) rfl rfl Try.func21 (by kernel_rfl) rfl #[] rfl (by (try simp only [List.map_toArray, List.map_cons, List.map_nil]); first | done | rfl | (simp only [List.length_drop, List.length_take]; rfl)) ?_; (with_reducible refine (awardingbodylaw41_sane.calls kj10  t216 _ A31.out).mono ?_); rintro e w32 ⟨rfl, hb⟩; refine ⟨_, rfl, ?_⟩; have n0_ := Aside0.mk (blk_below (g := gb205) (o := .cells #[.int .u32 a2_0, .int .u32 a2_1, .int .u32 a2_2, .int .u32 a2_3] 24 (0, 0)) (by (with_reducible repeat (first | refine blk_drewN ?_ _ | refine blk_drew ?_ | refine blk_alloc ?_ _)); exact BK205.out) hb); have n1_ := Aside0.mk (blk_below (g := gb206) (o := .cells #[.int .u32 a3_0, .int .u32 a3_1, .int .u32 a3_2, .int .u32 a3_3] 24 (0, 0)) (by (with_reducible repeat (first | refine blk_drewN ?_ _ | refine blk_drew ?_ | refine blk_alloc ?_ _)); exact BK206.out) hb); have n2_ := Aside0.mk (below_step (by repeat (first | (with_reducible first | exact HB.out | apply below_alloc | apply pw_below_drewN | apply below_drew1 | refine below_set ?_ GE205.out | refine below_set ?_ GE206.out) | exact HB.out)) hb); clear BK205; clear BK206; clear HB; have BK205 := n0_; have BK206 := n1_; have HB := n2_; clear n0_ n1_ n2_; (try clear hb); (try clear hb2); (try clear hk); (try clear hi)))
          go_ret
          exact ⟨by first | rfl | (simp [errW_none, errW_some] <;> rfl) | (simp [*, errW_none, errW_some] <;> rfl), by repeat (first | (with_reducible first | exact HB.out | apply below_alloc | apply pw_below_drewN | apply below_drew1 | refine below_set ?_ GE205.out | refine below_set ?_ GE206.out) | exact HB.out)⟩
        · rw [if_neg c30] at H
          have c30b0 : (t212 == t213) = false := beq_eq_false_iff_ne.mpr c30
          have c30b1 : (t212 != t213) = true := bne_iff_ne.mpr c30
          replace H := Option.bind_eq_some_iff.mp H
          obtain ⟨t217, A330, H⟩ := H
          replace H : ((awardingbodymark_Mod.f (wrap64 (t212 - t213)) 1073741789).bind fun t218 => (awardingbodylaw41_SignatureLeaks.l0 kj10 (wrap64 (1 + t207)) t217 1 t218 1073741787)) = some r := H
          have A33 := Aside0.mk A330
          clear A330
          replace H := Option.bind_eq_some_iff.mp H
          obtain ⟨t218, A340, H⟩ := H
          replace H : (awardingbodylaw41_SignatureLeaks.l0 kj10 (wrap64 (1 + t207)) t217 1 t218 1073741787) = some r := H
          have A34 := Aside0.mk A340
          clear A340
          have H' := Aside0.mk H
          clear H
          go_wp2_with (first | ((with_reducible refine gate_callee (f := 8) rfl ?_); refine goesL_ (some 83) rfl rfl Try.func8 (by kernel_rfl) rfl #[.int .i64 (wrap64 ((Int.tmod (wrap64 ((wrap64 (1 + t208)) + (wrap64 (t212 * (wrap64 (1 + t207)))))) 1073741789) - (Int.tmod (wrap64 ((wrap64 (1 + t208)) + (wrap64 (t213 * (wrap64 (1 + t207)))))) 1073741789))), .int .i64 1073741789] rfl (by (try simp only [List.map_toArray, List.map_cons, List.map_nil]); first | done | rfl | (simp only [List.length_drop, List.length_take]; rfl)) ?_; (with_reducible refine (awardingbodymark_Mod.calls (wrap64 ((Int.tmod (wrap64 ((wrap64 (1 + t208)) + (wrap64 (t212 * (wrap64 (1 + t207)))))) 1073741789) - (Int.tmod (wrap64 ((wrap64 (1 + t208)) + (wrap64 (t213 * (wrap64 (1 + t207)))))) 1073741789))) 1073741789 t217 _ A33.out).mono ?_); rintro e w' ⟨rfl, ⟨nd, rfl⟩⟩; refine ⟨_, rfl, ?_⟩) | ((with_reducible refine gate_callee (f := 8) rfl ?_); refine goesL_ (some 87) rfl rfl Try.func8 (by kernel_rfl) rfl #[.int .i64 (wrap64 (t212 - t213)), .int .i64 1073741789] rfl (by (try simp only [List.map_toArray, List.map_cons, List.map_nil]); first | done | rfl | (simp only [List.length_drop, List.length_take]; rfl)) ?_; (with_reducible refine (awardingbodymark_Mod.calls (wrap64 (t212 - t213)) 1073741789 t218 _ A34.out).mono ?_); rintro e w' ⟨rfl, ⟨nd, rfl⟩⟩; refine ⟨_, rfl, ?_⟩))
          go_loopg [20, 21, 22] kj10 (fun kq v20 v21 v22 w' => ∃ (x20_2 : Int) (x21_2 : Int) (x22_2 : Int), v20 = .int .i64 x20_2 ∧ v21 = .int .i64 x21_2 ∧ v22 = .int .i64 x22_2 ∧ Aside0 (awardingbodylaw41_SignatureLeaks.l0 kq (wrap64 (1 + t207)) t217 x20_2 x21_2 x22_2 = some r) ∧ Aside0 (kq ≤ kj10) ∧ Aside0 (w'.heap[gb205]? = some (.cells #[.int .u32 a2_0, .int .u32 a2_1, .int .u32 a2_2, .int .u32 a2_3] 24 (0, 0))) ∧ Aside0 (w'.heap[gb206]? = some (.cells #[.int .u32 a3_0, .int .u32 a3_1, .int .u32 a3_2, .int .u32 a3_3] 24 (0, 0))) ∧ Aside0 (Below w.heap.size w w'))
          case atStart => exact ⟨(1), (t218), (1073741787), (by first | rfl | (simp; done) | (simp [*]; done)), (by first | rfl | (simp; done) | (simp [*]; done)), (by first | rfl | (simp; done) | (simp [*]; done)), H', ⟨Nat.le_refl _⟩, ⟨by (with_reducible repeat (first | refine blk_drewN ?_ _ | refine blk_drew ?_ | refine blk_alloc ?_ _)); exact BK205.out⟩, ⟨by (with_reducible repeat (first | refine blk_drewN ?_ _ | refine blk_drew ?_ | refine blk_alloc ?_ _)); exact BK206.out⟩, ⟨by repeat (first | (with_reducible first | exact HB.out | apply below_alloc | apply pw_below_drewN | apply below_drew1 | refine below_set ?_ GE205.out | refine below_set ?_ GE206.out) | exact HB.out)⟩⟩
          case round =>
            clear H'
            try clear c1
            try clear c2
            try clear p2
            try clear c3
            try clear c6
            try clear p6
            try clear c8
            try clear c9
            try clear c15
            try clear c17
            try clear c17b0
            try clear c17b1
            try clear c19
            try clear c21
            try clear c26
            try clear c29
            try clear c30
            try clear c30b0
            try clear c30b1
            try clear hcz22_0
            try clear hcz22_1
            try clear hcz22_2
            try clear hcz22_3
            try clear hcz24_0
            try clear hcz24_1
            try clear hcz24_2
            try clear hcz24_3
            try clear hcz27_0
            try clear hcz27_1
            try clear hcz27_2
            try clear hcz27_3
            try clear hfz22_0
            try clear hfz22_1
            try clear hfz22_2
            try clear hfz22_3
            try clear hfz24_0
            try clear hfz24_1
            try clear hfz24_2
            try clear hfz24_3
            try clear hfz27_0
            try clear hfz27_1
            try clear hfz27_2
            try clear hfz27_3
            try clear p2
            try clear p6
            obtain ⟨x20_2, x21_2, x22_2, rfl, rfl, rfl, HA, HK2, BK205, BK206, HB⟩ := hrel
            cases gk with
            | zero => exact absurd HA.out (by simp [awardingbodylaw41_SignatureLeaks.l0])
            | succ k2 =>
              have H := HA.out
              clear HA
              simp only [awardingbodylaw41_SignatureLeaks.l0] at H
              by_cases c35 : x22_2 > 0
              · rw [if_pos c35] at H
                have c35b0 : decide (0 < x22_2) = true := decide_eq_true c35
                clear c35
                by_cases c36 : (Int.tmod x22_2 2) = 1
                · rw [if_pos c36] at H
                  have c36b0 : ((Int.tmod x22_2 2) == 1) = true := beq_iff_eq.mpr c36
                  have c36b1 : ((Int.tmod x22_2 2) != 1) = false := bne_eq_false_iff_eq.mpr c36
                  clear c36
                  have H' := Aside0.mk H
                  clear H
                  go_wp2
                  go_roundg k2
                  case measure => have := HJ10.out; have := HK2.out; omega
                  case rel => exact ⟨(Int.tmod (wrap64 (x20_2 * x21_2)) 1073741789), (Int.tmod (wrap64 (x21_2 * x21_2)) 1073741789), (wrap64 (Int.tdiv x22_2 2)), (by first | rfl | (simp; done) | (simp [*]; done)), (by first | rfl | (simp; done) | (simp [*]; done)), (by first | rfl | (simp; done) | (simp [*]; done)), H', ⟨by have := HJ10.out; have := HK2.out; omega⟩, ⟨by (with_reducible repeat (first | refine blk_drewN ?_ _ | refine blk_drew ?_ | refine blk_alloc ?_ _)); exact BK205.out⟩, ⟨by (with_reducible repeat (first | refine blk_drewN ?_ _ | refine blk_drew ?_ | refine blk_alloc ?_ _)); exact BK206.out⟩, ⟨by repeat (first | (with_reducible first | exact HB.out | apply below_alloc | apply pw_below_drewN | apply below_drew1 | refine below_set ?_ GE205.out | refine below_set ?_ GE206.out) | exact HB.out)⟩⟩
                · rw [if_neg c36] at H
                  have c36b0 : ((Int.tmod x22_2 2) == 1) = false := beq_eq_false_iff_ne.mpr c36
                  have c36b1 : ((Int.tmod x22_2 2) != 1) = true := bne_iff_ne.mpr c36
                  have H' := Aside0.mk H
                  clear H
                  go_wp2
                  go_roundg k2
                  case measure => have := HJ10.out; have := HK2.out; omega
                  case rel => exact ⟨(x20_2), (Int.tmod (wrap64 (x21_2 * x21_2)) 1073741789), (wrap64 (Int.tdiv x22_2 2)), (by first | rfl | (simp; done) | (simp [*]; done)), (by first | rfl | (simp; done) | (simp [*]; done)), (by first | rfl | (simp; done) | (simp [*]; done)), H', ⟨by have := HJ10.out; have := HK2.out; omega⟩, ⟨by (with_reducible repeat (first | refine blk_drewN ?_ _ | refine blk_drew ?_ | refine blk_alloc ?_ _)); exact BK205.out⟩, ⟨by (with_reducible repeat (first | refine blk_drewN ?_ _ | refine blk_drew ?_ | refine blk_alloc ?_ _)); exact BK206.out⟩, ⟨by repeat (first | (with_reducible first | exact HB.out | apply below_alloc | apply pw_below_drewN | apply below_drew1 | refine below_set ?_ GE205.out | refine below_set ?_ GE206.out) | exact HB.out)⟩⟩
              · rw [if_neg c35] at H
                have c35b0 : decide (0 < x22_2) = false := decide_eq_false c35
                clear c35
                by_cases c37 : (Int.tmod (wrap64 (t217 * x20_2)) 1073741789) = (wrap64 (1 + t207))
                · rw [if_pos c37] at H
                  have c37b0 : ((Int.tmod (wrap64 (t217 * x20_2)) 1073741789) == (wrap64 (1 + t207))) = true := beq_iff_eq.mpr c37
                  have c37b1 : ((Int.tmod (wrap64 (t217 * x20_2)) 1073741789) != (wrap64 (1 + t207))) = false := bne_eq_false_iff_eq.mpr c37
                  clear c37
                  replace H := Option.bind_eq_some_iff.mp H
                  obtain ⟨t219, A380, H⟩ := H
                  replace H : (some t219) = some r := H
                  have A38 := Aside0.mk A380
                  clear A380
                  obtain rfl := Option.some.inj H
                  go_wp2_with (first | (go_at_call 21; (with_reducible refine (awardingbodylaw41_sane.calls k2  t219 _ A38.out).mono ?_); rintro e w39 ⟨rfl, hb⟩; have n0_ := Aside0.mk (blk_below (g := gb205) (o := .cells #[.int .u32 a2_0, .int .u32 a2_1, .int .u32 a2_2, .int .u32 a2_3] 24 (0, 0)) (by (with_reducible repeat (first | refine blk_drewN ?_ _ | refine blk_drew ?_ | refine blk_alloc ?_ _)); exact BK205.out) hb); have n1_ := Aside0.mk (blk_below (g := gb206) (o := .cells #[.int .u32 a3_0, .int .u32 a3_1, .int .u32 a3_2, .int .u32 a3_3] 24 (0, 0)) (by (with_reducible repeat (first | refine blk_drewN ?_ _ | refine blk_drew ?_ | refine blk_alloc ?_ _)); exact BK206.out) hb); have n2_ := Aside0.mk (below_step (by repeat (first | (with_reducible first | exact HB.out | apply below_alloc | apply pw_below_drewN | apply below_drew1 | refine below_set ?_ GE205.out | refine below_set ?_ GE206.out) | exact HB.out)) hb); clear BK205; clear BK206; clear HB; have BK205 := n0_; have BK206 := n1_; have HB := n2_; clear n0_ n1_ n2_; (try clear hb); (try clear hb2); (try clear hk); (try clear hi)))
                  go_ret
                  exact ⟨by first | rfl | (simp [errW_none, errW_some] <;> rfl) | (simp [*, errW_none, errW_some] <;> rfl), by repeat (first | (with_reducible first | exact HB.out | apply below_alloc | apply pw_below_drewN | apply below_drew1 | refine below_set ?_ GE205.out | refine below_set ?_ GE206.out) | exact HB.out)⟩
                · rw [if_neg c37] at H
                  have c37b0 : ((Int.tmod (wrap64 (t217 * x20_2)) 1073741789) == (wrap64 (1 + t207))) = false := beq_eq_false_iff_ne.mpr c37
                  have c37b1 : ((Int.tmod (wrap64 (t217 * x20_2)) 1073741789) != (wrap64 (1 + t207))) = true := bne_iff_ne.mpr c37
                  obtain rfl := Option.some.inj H
                  go_wp2
                  go_ret
                  exact ⟨by first | rfl | (simp [errW_none, errW_some] <;> rfl) | (simp [*, errW_none, errW_some] <;> rfl), by repeat (first | (with_reducible first | exact HB.out | apply below_alloc | apply pw_below_drewN | apply below_drew1 | refine below_set ?_ GE205.out | refine below_set ?_ GE206.out) | exact HB.out)⟩

/-- THE ONE PURE STATEMENT of awardingbodylaw41_SignatureLeaks. -/
def awardingbodylaw41_SignatureLeaks.Pure : Prop := ∀ (a0 : Int) (a1 : Int) (a2_0 : Int) (a2_1 : Int) (a2_2 : Int) (a2_3 : Int) (a3_0 : Int) (a3_1 : Int) (a3_2 : Int) (a3_3 : Int), (Lit.int .i64 a0).wf = true → (Lit.int .i64 a1).wf = true → (Lit.int .u32 a2_0).wf = true → (Lit.int .u32 a2_1).wf = true → (Lit.int .u32 a2_2).wf = true → (Lit.int .u32 a2_3).wf = true → (Lit.int .u32 a3_0).wf = true → (Lit.int .u32 a3_1).wf = true → (Lit.int .u32 a3_2).wf = true → (Lit.int .u32 a3_3).wf = true → ∃ k, awardingbodylaw41_SignatureLeaks.f k a0 a1 a2_0 a2_1 a2_2 a2_3 a3_0 a3_1 a3_2 a3_3 = some true
theorem awardingbodylaw41_SignatureLeaks.walk (P : awardingbodylaw41_SignatureLeaks.Pure) (a0 : Int) (a1 : Int) (a2_0 : Int) (a2_1 : Int) (a2_2 : Int) (a2_3 : Int) (a3_0 : Int) (a3_1 : Int) (a3_2 : Int) (a3_3 : Int) (w : World) (w0 : (Lit.int .i64 a0).wf = true) (w1 : (Lit.int .i64 a1).wf = true) (w2_0 : (Lit.int .u32 a2_0).wf = true) (w2_1 : (Lit.int .u32 a2_1).wf = true) (w2_2 : (Lit.int .u32 a2_2).wf = true) (w2_3 : (Lit.int .u32 a2_3).wf = true) (w3_0 : (Lit.int .u32 a3_0).wf = true) (w3_1 : (Lit.int .u32 a3_1).wf = true) (w3_2 : (Lit.int .u32 a3_2).wf = true) (w3_3 : (Lit.int .u32 a3_3).wf = true) :
    Calls Try.prog 6 #[.int .i64 a0, .int .i64 a1, .agg #[.int .u32 a2_0, .int .u32 a2_1, .int .u32 a2_2, .int .u32 a2_3], .agg #[.int .u32 a3_0, .int .u32 a3_1, .int .u32 a3_2, .int .u32 a3_3]] w fun e w' => e = .returned (.bool true) ∧ Below w.heap.size w w' := by
  obtain ⟨k, h⟩ := P a0 a1 a2_0 a2_1 a2_2 a2_3 a3_0 a3_1 a3_2 a3_3 w0 w1 w2_0 w2_1 w2_2 w2_3 w3_0 w3_1 w3_2 w3_3
  refine (awardingbodylaw41_SignatureLeaks.calls k a0 a1 a2_0 a2_1 a2_2 a2_3 a3_0 a3_1 a3_2 a3_3 true w h).mono ?_
  rintro e w' ⟨rfl, hd⟩
  exact ⟨rfl, hd⟩

end Go.Proofs.Ytijmmnlhbbmhlaa.XA
