/- Go functions of the program as plain Lean functions with a number of rounds, and that the calls come to exactly their answers. Conditions: those in each theorem. Written by a program of this project (wip/tools/xprint.py). -/
import Derived.Test.YtijmmnlhbbmhlaaXAx0
import Derived.Test.YtijmmnlhbbmhlaaXAx1
import Derived.Test.YtijmmnlhbbmhlaaXAx2
namespace Go.Proofs.Ytijmmnlhbbmhlaa.XA
open Go.RowKit Go.Proofs.Ytijmmnlhbbmhlaa.Ix Go.Proofs.YtijmmnlhbbmhlaaW.PrintWords Go.Proofs.YtijmmnlhbbmhlaaW.PrintLast Go.Proofs.YtijmmnlhbbmhlaaW.PrintMore
attribute [local go_sem] max2_int min2_int max_two min_two max_three min_three max_four min_four   -- for this text's walks alone
set_option linter.unusedVariables false
set_option linter.unusedSimpArgs false

/-! ### awardingbodylaw41_SignatureOther: function 7 -/
def awardingbodylaw41_SignatureOther.j0 : Nat → Int → Int → Int → Int → Bool → Int → Int → Int → Int → Int → Int → Int → Int → Int → Int → Option (Bool)
  | 0, _, _, _, _, _, _, _, _, _, _, _, _, _, _, _ => none
  | k + 1, x9, x10, x11, x13, x50, x236000, x236001, x236002, x236003, x237000, x237001, x237002, x237003, x247000, x247001 => if x50 = true then (some false) else ((signature_Challenge.f k x247000 x11 x236000 x236001 x236002 x236003).bind fun t247 => ((signature_Challenge.f k x247000 x11 x237000 x237001 x237002 x237003).bind fun t248 => ((signature_Challenge.f k x247000 x11 x236000 x236001 x236002 x236003).bind fun t249 => ((signature_Challenge.f k x247000 x13 x236000 x236001 x236002 x236003).bind fun t250 => ((signature_Verify.f k x11 x237000 x237001 x237002 x237003 x247000 x247001).bind fun t251 => (if (t251 == (t247 == t248)) = true then ((signature_Verify.f k x13 x236000 x236001 x236002 x236003 x247000 x247001).bind fun t252 => (if (t252 == ((Int.tmod (wrap64 ((wrap64 (t249 * x9)) - (wrap64 (t250 * x10)))) 1073741789) == 0)) = true then ((awardingbodylaw41_sane.f k).bind fun t253 => (some t253)) else (some false))) else (some false)))))))
def awardingbodylaw41_SignatureOther.f (k : Nat) (a0 : Int) (a1 : Int) (a2_0 : Int) (a2_1 : Int) (a2_2 : Int) (a2_3 : Int) (a3_0 : Int) (a3_1 : Int) (a3_2 : Int) (a3_3 : Int) : Option (Bool) := (awardingbodymark_Mod.f a0 1073741788).bind fun t237 => ((awardingbodymark_Mod.f a1 1073741788).bind fun t238 => ((signature_Public.f k (wrap64 (1 + t237))).bind fun bt239 => ((signature_Public.f k (wrap64 (1 + t238))).bind fun bt241 => ((signature_Sign.f k (wrap64 (1 + t237)) a2_0 a2_1 a2_2 a2_3).bind fun bt243 => (if bt239.2 = 0 then (if bt241.2 = 0 then (awardingbodylaw41_SignatureOther.j0 k (wrap64 (1 + t237)) (wrap64 (1 + t238)) bt239.1 bt241.1 (bt243.2.2 != 0) a2_0 a2_1 a2_2 a2_3 a3_0 a3_1 a3_2 a3_3 bt243.1 bt243.2.1) else (awardingbodylaw41_SignatureOther.j0 k (wrap64 (1 + t237)) (wrap64 (1 + t238)) bt239.1 bt241.1 true a2_0 a2_1 a2_2 a2_3 a3_0 a3_1 a3_2 a3_3 bt243.1 bt243.2.1)) else (awardingbodylaw41_SignatureOther.j0 k (wrap64 (1 + t237)) (wrap64 (1 + t238)) bt239.1 bt241.1 true a2_0 a2_1 a2_2 a2_3 a3_0 a3_1 a3_2 a3_3 bt243.1 bt243.2.1))))))
theorem awardingbodylaw41_SignatureOther.mono_l : ∀ k, (∀ y0 y1 y2 y3 y4 y5 y6 y7 y8 y9 y10 y11 y12 y13 y14, LeO (awardingbodylaw41_SignatureOther.j0 k y0 y1 y2 y3 y4 y5 y6 y7 y8 y9 y10 y11 y12 y13 y14) (awardingbodylaw41_SignatureOther.j0 (k + 1) y0 y1 y2 y3 y4 y5 y6 y7 y8 y9 y10 y11 y12 y13 y14))
  | 0 => fun _ _ _ _ _ _ _ _ _ _ _ _ _ _ _ r h => by simp [awardingbodylaw41_SignatureOther.j0] at h
  | k + 1 => by
    have ih0 := awardingbodylaw41_SignatureOther.mono_l k
    · intro y0 y1 y2 y3 y4 y5 y6 y7 y8 y9 y10 y11 y12 y13 y14
      unfold awardingbodylaw41_SignatureOther.j0
      repeat' first
      | (with_reducible exact ih0 _ _ _ _ _ _ _ _ _ _ _ _ _ _ _)
      | (with_reducible exact awardingbodylaw41_sane.mono _)
      | (with_reducible exact signature_Challenge.mono _ _ _ _ _ _ _)
      | (with_reducible exact signature_Public.mono _ _)
      | (with_reducible exact signature_Sign.mono _ _ _ _ _ _)
      | (with_reducible exact signature_Verify.mono _ _ _ _ _ _ _ _)
      | (with_reducible exact LeO.refl _)
      | (with_reducible exact LeO.none _)
      | (with_reducible refine LeO.ite ?_ ?_)
      | (with_reducible refine LeO.bind ?_ (fun _ => ?_))
      | exact ih0 _ _ _ _ _ _ _ _ _ _ _ _ _ _ _
      | exact awardingbodylaw41_sane.mono _
      | exact signature_Challenge.mono _ _ _ _ _ _ _
      | exact signature_Public.mono _ _
      | exact signature_Sign.mono _ _ _ _ _ _
      | exact signature_Verify.mono _ _ _ _ _ _ _ _
      | exact LeO.none _
      | refine LeO.ite ?_ ?_
      | refine LeO.bind ?_ (fun _ => ?_)
theorem awardingbodylaw41_SignatureOther.mono : ∀ a0 a1 a2 a3 a4 a5 a6 a7 a8 a9 k, LeO (awardingbodylaw41_SignatureOther.f k a0 a1 a2 a3 a4 a5 a6 a7 a8 a9) (awardingbodylaw41_SignatureOther.f (k + 1) a0 a1 a2 a3 a4 a5 a6 a7 a8 a9) := by
  intro a0 a1 a2 a3 a4 a5 a6 a7 a8 a9 k
  have ih0 := awardingbodylaw41_SignatureOther.mono_l k
  unfold awardingbodylaw41_SignatureOther.f
  repeat' first
      | (with_reducible exact ih0 _ _ _ _ _ _ _ _ _ _ _ _ _ _ _)
      | (with_reducible exact awardingbodylaw41_sane.mono _)
      | (with_reducible exact signature_Challenge.mono _ _ _ _ _ _ _)
      | (with_reducible exact signature_Public.mono _ _)
      | (with_reducible exact signature_Sign.mono _ _ _ _ _ _)
      | (with_reducible exact signature_Verify.mono _ _ _ _ _ _ _ _)
      | (with_reducible exact LeO.refl _)
      | (with_reducible exact LeO.none _)
      | (with_reducible refine LeO.ite ?_ ?_)
      | (with_reducible refine LeO.bind ?_ (fun _ => ?_))
      | exact ih0 _ _ _ _ _ _ _ _ _ _ _ _ _ _ _
      | exact awardingbodylaw41_sane.mono _
      | exact signature_Challenge.mono _ _ _ _ _ _ _
      | exact signature_Public.mono _ _
      | exact signature_Sign.mono _ _ _ _ _ _
      | exact signature_Verify.mono _ _ _ _ _ _ _ _
      | exact LeO.none _
      | refine LeO.ite ?_ ?_
      | refine LeO.bind ?_ (fun _ => ?_)
def awardingbodylaw41_SignatureOther.T7 : Bool × List (List Nat × List Nat) := (true, [([], []), ([0], [0]), ([], []), ([], []), ([1, 2, 3], [1, 2, 3]), ([], []), ([5], [5]), ([], []), ([], []), ([6, 7, 8, 4], [6, 7, 8]), ([4, 9], [4, 9]), ([10, 9, 0, 1, 2, 3, 4, 5, 6, 7, 8, 9, 10], [10])])
def awardingbodylaw41_SignatureOther.B7 : List Nat := [0, 1, 0, 0, 15, 0, 32, 0, 0, 511, 1023, 2047]
theorem awardingbodylaw41_SignatureOther.tab7 : rtab .any (opsOf Try.f7 7) = awardingbodylaw41_SignatureOther.T7 := by kernel_rfl
theorem awardingbodylaw41_SignatureOther.bits7 : waitsOk awardingbodylaw41_SignatureOther.T7.2 awardingbodylaw41_SignatureOther.B7 = true := by kernel_rfl
def awardingbodylaw41_SignatureOther.T8 : Bool × List (List Nat × List Nat) := (true, [([], []), ([0], [0]), ([], []), ([], []), ([1, 2, 3], [1, 2, 3]), ([], []), ([4, 5], [4, 5]), ([], []), ([7], [7]), ([], []), ([], []), ([8, 9, 10, 4], [8, 9, 10]), ([], []), ([11, 12], [11, 12]), ([6, 13], [6, 13]), ([14], [14]), ([15], [15]), ([16, 11, 0, 1, 2, 3, 4, 5, 6, 7, 8, 9, 10, 11, 12, 13, 14, 15, 16], [16])])
def awardingbodylaw41_SignatureOther.B8 : List Nat := [0, 1, 0, 0, 15, 0, 63, 0, 128, 0, 0, 1951, 0, 8095, 16383, 32767, 65535, 131071]
theorem awardingbodylaw41_SignatureOther.tab8 : rtab .any (opsOf Try.f7 8) = awardingbodylaw41_SignatureOther.T8 := by kernel_rfl
theorem awardingbodylaw41_SignatureOther.bits8 : waitsOk awardingbodylaw41_SignatureOther.T8.2 awardingbodylaw41_SignatureOther.B8 = true := by kernel_rfl
set_option maxHeartbeats 8000000 in
set_option maxRecDepth 100000 in
theorem awardingbodylaw41_SignatureOther.calls (k : Nat) (a0 : Int) (a1 : Int) (a2_0 : Int) (a2_1 : Int) (a2_2 : Int) (a2_3 : Int) (a3_0 : Int) (a3_1 : Int) (a3_2 : Int) (a3_3 : Int) (r : Bool) (w : World) (h : awardingbodylaw41_SignatureOther.f k a0 a1 a2_0 a2_1 a2_2 a2_3 a3_0 a3_1 a3_2 a3_3 = some r) :
    Calls Try.prog 7 #[.int .i64 a0, .int .i64 a1, .agg #[.int .u32 a2_0, .int .u32 a2_1, .int .u32 a2_2, .int .u32 a2_3], .agg #[.int .u32 a3_0, .int .u32 a3_1, .int .u32 a3_2, .int .u32 a3_3]] w fun e w' => e = .returned (.bool r) ∧ Below w.heap.size w w' := by
  have hu24 := Try.underlying24
  have hu26 := Try.underlying26
  have HB := Aside0.mk (Below.refl w.heap.size w)
  have H : ((awardingbodymark_Mod.f a0 1073741788).bind fun t237 => ((awardingbodymark_Mod.f a1 1073741788).bind fun t238 => ((signature_Public.f k (wrap64 (1 + t237))).bind fun bt239 => ((signature_Public.f k (wrap64 (1 + t238))).bind fun bt241 => ((signature_Sign.f k (wrap64 (1 + t237)) a2_0 a2_1 a2_2 a2_3).bind fun bt243 => (if bt239.2 = 0 then (if bt241.2 = 0 then (awardingbodylaw41_SignatureOther.j0 k (wrap64 (1 + t237)) (wrap64 (1 + t238)) bt239.1 bt241.1 (bt243.2.2 != 0) a2_0 a2_1 a2_2 a2_3 a3_0 a3_1 a3_2 a3_3 bt243.1 bt243.2.1) else (awardingbodylaw41_SignatureOther.j0 k (wrap64 (1 + t237)) (wrap64 (1 + t238)) bt239.1 bt241.1 true a2_0 a2_1 a2_2 a2_3 a3_0 a3_1 a3_2 a3_3 bt243.1 bt243.2.1)) else (awardingbodylaw41_SignatureOther.j0 k (wrap64 (1 + t237)) (wrap64 (1 + t238)) bt239.1 bt241.1 true a2_0 a2_1 a2_2 a2_3 a3_0 a3_1 a3_2 a3_3 bt243.1 bt243.2.1))))))) = some r := h
  clear h
  replace H := Option.bind_eq_some_iff.mp H
  obtain ⟨t237, A50, H⟩ := H
  replace H : ((awardingbodymark_Mod.f a1 1073741788).bind fun t238 => ((signature_Public.f k (wrap64 (1 + t237))).bind fun bt239 => ((signature_Public.f k (wrap64 (1 + t238))).bind fun bt241 => ((signature_Sign.f k (wrap64 (1 + t237)) a2_0 a2_1 a2_2 a2_3).bind fun bt243 => (if bt239.2 = 0 then (if bt241.2 = 0 then (awardingbodylaw41_SignatureOther.j0 k (wrap64 (1 + t237)) (wrap64 (1 + t238)) bt239.1 bt241.1 (bt243.2.2 != 0) a2_0 a2_1 a2_2 a2_3 a3_0 a3_1 a3_2 a3_3 bt243.1 bt243.2.1) else (awardingbodylaw41_SignatureOther.j0 k (wrap64 (1 + t237)) (wrap64 (1 + t238)) bt239.1 bt241.1 true a2_0 a2_1 a2_2 a2_3 a3_0 a3_1 a3_2 a3_3 bt243.1 bt243.2.1)) else (awardingbodylaw41_SignatureOther.j0 k (wrap64 (1 + t237)) (wrap64 (1 + t238)) bt239.1 bt241.1 true a2_0 a2_1 a2_2 a2_3 a3_0 a3_1 a3_2 a3_3 bt243.1 bt243.2.1)))))) = some r := H
  have A5 := Aside0.mk A50
  clear A50
  replace H := Option.bind_eq_some_iff.mp H
  obtain ⟨t238, A60, H⟩ := H
  replace H : ((signature_Public.f k (wrap64 (1 + t237))).bind fun bt239 => ((signature_Public.f k (wrap64 (1 + t238))).bind fun bt241 => ((signature_Sign.f k (wrap64 (1 + t237)) a2_0 a2_1 a2_2 a2_3).bind fun bt243 => (if bt239.2 = 0 then (if bt241.2 = 0 then (awardingbodylaw41_SignatureOther.j0 k (wrap64 (1 + t237)) (wrap64 (1 + t238)) bt239.1 bt241.1 (bt243.2.2 != 0) a2_0 a2_1 a2_2 a2_3 a3_0 a3_1 a3_2 a3_3 bt243.1 bt243.2.1) else (awardingbodylaw41_SignatureOther.j0 k (wrap64 (1 + t237)) (wrap64 (1 + t238)) bt239.1 bt241.1 true a2_0 a2_1 a2_2 a2_3 a3_0 a3_1 a3_2 a3_3 bt243.1 bt243.2.1)) else (awardingbodylaw41_SignatureOther.j0 k (wrap64 (1 + t237)) (wrap64 (1 + t238)) bt239.1 bt241.1 true a2_0 a2_1 a2_2 a2_3 a3_0 a3_1 a3_2 a3_3 bt243.1 bt243.2.1))))) = some r := H
  have A6 := Aside0.mk A60
  clear A60
  replace H := Option.bind_eq_some_iff.mp H
  obtain ⟨⟨t239, t240⟩, A70, H⟩ := H
  replace H : ((signature_Public.f k (wrap64 (1 + t238))).bind fun bt241 => ((signature_Sign.f k (wrap64 (1 + t237)) a2_0 a2_1 a2_2 a2_3).bind fun bt243 => (if t240 = 0 then (if bt241.2 = 0 then (awardingbodylaw41_SignatureOther.j0 k (wrap64 (1 + t237)) (wrap64 (1 + t238)) t239 bt241.1 (bt243.2.2 != 0) a2_0 a2_1 a2_2 a2_3 a3_0 a3_1 a3_2 a3_3 bt243.1 bt243.2.1) else (awardingbodylaw41_SignatureOther.j0 k (wrap64 (1 + t237)) (wrap64 (1 + t238)) t239 bt241.1 true a2_0 a2_1 a2_2 a2_3 a3_0 a3_1 a3_2 a3_3 bt243.1 bt243.2.1)) else (awardingbodylaw41_SignatureOther.j0 k (wrap64 (1 + t237)) (wrap64 (1 + t238)) t239 bt241.1 true a2_0 a2_1 a2_2 a2_3 a3_0 a3_1 a3_2 a3_3 bt243.1 bt243.2.1)))) = some r := H
  have A7 := Aside0.mk A70
  clear A70
  replace H := Option.bind_eq_some_iff.mp H
  obtain ⟨⟨t241, t242⟩, A80, H⟩ := H
  replace H : ((signature_Sign.f k (wrap64 (1 + t237)) a2_0 a2_1 a2_2 a2_3).bind fun bt243 => (if t240 = 0 then (if t242 = 0 then (awardingbodylaw41_SignatureOther.j0 k (wrap64 (1 + t237)) (wrap64 (1 + t238)) t239 t241 (bt243.2.2 != 0) a2_0 a2_1 a2_2 a2_3 a3_0 a3_1 a3_2 a3_3 bt243.1 bt243.2.1) else (awardingbodylaw41_SignatureOther.j0 k (wrap64 (1 + t237)) (wrap64 (1 + t238)) t239 t241 true a2_0 a2_1 a2_2 a2_3 a3_0 a3_1 a3_2 a3_3 bt243.1 bt243.2.1)) else (awardingbodylaw41_SignatureOther.j0 k (wrap64 (1 + t237)) (wrap64 (1 + t238)) t239 t241 true a2_0 a2_1 a2_2 a2_3 a3_0 a3_1 a3_2 a3_3 bt243.1 bt243.2.1))) = some r := H
  have A8 := Aside0.mk A80
  clear A80
  replace H := Option.bind_eq_some_iff.mp H
  obtain ⟨⟨t243, t244, t245⟩, A90, H⟩ := H
  replace H : (if t240 = 0 then (if t242 = 0 then (awardingbodylaw41_SignatureOther.j0 k (wrap64 (1 + t237)) (wrap64 (1 + t238)) t239 t241 (t245 != 0) a2_0 a2_1 a2_2 a2_3 a3_0 a3_1 a3_2 a3_3 t243 t244) else (awardingbodylaw41_SignatureOther.j0 k (wrap64 (1 + t237)) (wrap64 (1 + t238)) t239 t241 true a2_0 a2_1 a2_2 a2_3 a3_0 a3_1 a3_2 a3_3 t243 t244)) else (awardingbodylaw41_SignatureOther.j0 k (wrap64 (1 + t237)) (wrap64 (1 + t238)) t239 t241 true a2_0 a2_1 a2_2 a2_3 a3_0 a3_1 a3_2 a3_3 t243 t244)) = some r := H
  have A9 := Aside0.mk A90
  clear A90
  have HC10 := Aside0.mk H
  clear H
  go_enter Try.func7, Try.ntmps7
  go_upto_region 5 with (first | ((with_reducible refine gate_dst (N := 6) rfl ?_); refine box_event ?hg (N := 6) ?hd (cs := #[.int .u32 a2_0, .int .u32 a2_1, .int .u32 a2_2, .int .u32 a2_3]) (t := 24) ?hr ?_; (case hd => rfl); (case hg => rfl); (case hr => first | (go_simp; done) | (go_simp; rfl)); intro gb235 hg w11 hbox hb; have n0_ := Aside0.mk (below_step (by repeat (first | (with_reducible first | exact HB.out | apply below_alloc | apply pw_below_drewN | apply below_drew1) | exact HB.out)) hb); have n1_ := Aside0.mk (hbox); have n2_ := Aside0.mk ((by rw [hg]; exact (below_size (by repeat (first | (with_reducible first | exact HB.out | apply below_alloc | apply pw_below_drewN | apply below_drew1) | exact HB.out))) : w.heap.size ≤ gb235)); have n3_ := Aside0.mk ((by rw [hg]; exact (below_size (by repeat (first | (with_reducible first | exact HB.out | apply below_alloc | apply pw_below_drewN | apply below_drew1) | exact HB.out))) : w.heap.size ≤ gb235)); clear HB; have HB := n0_; have BK235 := n1_; have GW235 := n2_; have GE235 := n3_; clear n0_ n1_ n2_ n3_; clear hb hbox hg) | ((with_reducible refine gate_dst (N := 7) rfl ?_); refine box_event ?hg (N := 7) ?hd (cs := #[.int .u32 a3_0, .int .u32 a3_1, .int .u32 a3_2, .int .u32 a3_3]) (t := 24) ?hr ?_; (case hd => rfl); (case hg => rfl); (case hr => first | (go_simp; done) | (go_simp; rfl)); intro gb236 hg w12 hbox hb; have n0_ := Aside0.mk (blk_below (g := gb235) (o := .cells #[.int .u32 a2_0, .int .u32 a2_1, .int .u32 a2_2, .int .u32 a2_3] 24 (0, 0)) (by (with_reducible repeat (first | refine blk_drewN ?_ _ | refine blk_drew ?_ | refine blk_alloc ?_ _)); exact BK235.out) hb); have n1_ := Aside0.mk (below_step (by repeat (first | (with_reducible first | exact HB.out | apply below_alloc | apply pw_below_drewN | apply below_drew1 | refine below_set ?_ GE235.out) | exact HB.out)) hb); have n2_ := Aside0.mk (hbox); have n3_ := Aside0.mk ((by rw [hg]; exact (below_size (by repeat (first | (with_reducible first | exact HB.out | apply below_alloc | apply pw_below_drewN | apply below_drew1 | refine below_set ?_ GE235.out) | exact HB.out))) : w.heap.size ≤ gb236)); have n4_ := Aside0.mk ((by rw [hg]; exact (below_size (by repeat (first | (with_reducible first | exact HB.out | apply below_alloc | apply pw_below_drewN | apply below_drew1 | refine below_set ?_ GE235.out) | exact HB.out))) : w.heap.size ≤ gb236)); have n5_ := Aside0.mk ((by rw [hg]; exact Nat.ne_of_lt (blk_lt (g := gb235) (o := .cells #[.int .u32 a2_0, .int .u32 a2_1, .int .u32 a2_2, .int .u32 a2_3] 24 (0, 0)) (by (with_reducible repeat (first | refine blk_drewN ?_ _ | refine blk_drew ?_ | refine blk_alloc ?_ _)); exact BK235.out)) : gb235 ≠ gb236)); have n6_ := Aside0.mk ((by rw [hg]; exact Nat.ne_of_gt (blk_lt (g := gb235) (o := .cells #[.int .u32 a2_0, .int .u32 a2_1, .int .u32 a2_2, .int .u32 a2_3] 24 (0, 0)) (by (with_reducible repeat (first | refine blk_drewN ?_ _ | refine blk_drew ?_ | refine blk_alloc ?_ _)); exact BK235.out)) : gb236 ≠ gb235)); clear BK235; clear HB; have BK235 := n0_; have HB := n1_; have BK236 := n2_; have GW236 := n3_; have GE236 := n4_; have NB235_236 := n5_; have NB236_235 := n6_; clear n0_ n1_ n2_ n3_ n4_ n5_ n6_; clear hb hbox hg) | ((with_reducible refine gate_callee (f := 8) rfl ?_); refine goesL_ (some 20) rfl rfl Try.func8 (by kernel_rfl) rfl #[.int .i64 a0, .int .i64 1073741788] rfl (by (try simp only [List.map_toArray, List.map_cons, List.map_nil]); first | done | rfl | (simp only [List.length_drop, List.length_take]; rfl)) ?_; (with_reducible refine (awardingbodymark_Mod.calls a0 1073741788 t237 _ A5.out).mono ?_); rintro e w' ⟨rfl, ⟨nd, rfl⟩⟩; refine ⟨_, rfl, ?_⟩; (try (rw [drewN_self w12]; generalize hq_ : World.drewN w12 _ = w12; have n0_ : Aside0 (w12.heap[gb235]? = some (.cells #[.int .u32 a2_0, .int .u32 a2_1, .int .u32 a2_2, .int .u32 a2_3] 24 (0, 0))) := ⟨by rw [← hq_]; exact (by (with_reducible repeat (first | refine blk_drewN ?_ _ | refine blk_drew ?_ | refine blk_alloc ?_ _)); exact BK235.out)⟩; have n1_ : Aside0 (w12.heap[gb236]? = some (.cells #[.int .u32 a3_0, .int .u32 a3_1, .int .u32 a3_2, .int .u32 a3_3] 24 (0, 0))) := ⟨by rw [← hq_]; exact (by (with_reducible repeat (first | refine blk_drewN ?_ _ | refine blk_drew ?_ | refine blk_alloc ?_ _)); exact BK236.out)⟩; have n2_ : Aside0 (Below w.heap.size w w12) := ⟨by rw [← hq_]; exact (by repeat (first | (with_reducible first | exact HB.out | apply below_alloc | apply pw_below_drewN | apply below_drew1 | refine below_set ?_ GE235.out | refine below_set ?_ GE236.out) | exact HB.out))⟩; clear BK235 BK236 HB hq_; have BK235 := n0_; have BK236 := n1_; have HB := n2_; clear n0_ n1_ n2_))) | ((with_reducible refine gate_callee (f := 8) rfl ?_); refine goesL_ (some 23) rfl rfl Try.func8 (by kernel_rfl) rfl #[.int .i64 a1, .int .i64 1073741788] rfl (by (try simp only [List.map_toArray, List.map_cons, List.map_nil]); first | done | rfl | (simp only [List.length_drop, List.length_take]; rfl)) ?_; (with_reducible refine (awardingbodymark_Mod.calls a1 1073741788 t238 _ A6.out).mono ?_); rintro e w' ⟨rfl, ⟨nd, rfl⟩⟩; refine ⟨_, rfl, ?_⟩; (try (rw [drewN_self w12]; generalize hq_ : World.drewN w12 _ = w12; have n0_ : Aside0 (w12.heap[gb235]? = some (.cells #[.int .u32 a2_0, .int .u32 a2_1, .int .u32 a2_2, .int .u32 a2_3] 24 (0, 0))) := ⟨by rw [← hq_]; exact (by (with_reducible repeat (first | refine blk_drewN ?_ _ | refine blk_drew ?_ | refine blk_alloc ?_ _)); exact BK235.out)⟩; have n1_ : Aside0 (w12.heap[gb236]? = some (.cells #[.int .u32 a3_0, .int .u32 a3_1, .int .u32 a3_2, .int .u32 a3_3] 24 (0, 0))) := ⟨by rw [← hq_]; exact (by (with_reducible repeat (first | refine blk_drewN ?_ _ | refine blk_drew ?_ | refine blk_alloc ?_ _)); exact BK236.out)⟩; have n2_ : Aside0 (Below w.heap.size w w12) := ⟨by rw [← hq_]; exact (by repeat (first | (with_reducible first | exact HB.out | apply below_alloc | apply pw_below_drewN | apply below_drew1 | refine below_set ?_ GE235.out | refine below_set ?_ GE236.out) | exact HB.out))⟩; clear BK235 BK236 HB hq_; have BK235 := n0_; have BK236 := n1_; have HB := n2_; clear n0_ n1_ n2_))) | ((with_reducible refine gate_callee (f := 9) rfl ?_); refine goesL_ (some 27) rfl rfl Try.func9 (by kernel_rfl) rfl #[.int .i64 (wrap64 (1 + t237))] rfl (by (try simp only [List.map_toArray, List.map_cons, List.map_nil]); first | done | rfl | (simp only [List.length_drop, List.length_take]; rfl)) ?_; (with_reducible refine (signature_Public.calls k (wrap64 (1 + t237)) t239 t240 _ A7.out).mono ?_); rintro e w' ⟨rfl, ⟨nd, rfl⟩⟩; refine ⟨_, rfl, ?_⟩; (try (rw [drewN_self w12]; generalize hq_ : World.drewN w12 _ = w12; have n0_ : Aside0 (w12.heap[gb235]? = some (.cells #[.int .u32 a2_0, .int .u32 a2_1, .int .u32 a2_2, .int .u32 a2_3] 24 (0, 0))) := ⟨by rw [← hq_]; exact (by (with_reducible repeat (first | refine blk_drewN ?_ _ | refine blk_drew ?_ | refine blk_alloc ?_ _)); exact BK235.out)⟩; have n1_ : Aside0 (w12.heap[gb236]? = some (.cells #[.int .u32 a3_0, .int .u32 a3_1, .int .u32 a3_2, .int .u32 a3_3] 24 (0, 0))) := ⟨by rw [← hq_]; exact (by (with_reducible repeat (first | refine blk_drewN ?_ _ | refine blk_drew ?_ | refine blk_alloc ?_ _)); exact BK236.out)⟩; have n2_ : Aside0 (Below w.heap.size w w12) := ⟨by rw [← hq_]; exact (by repeat (first | (with_reducible first | exact HB.out | apply below_alloc | apply pw_below_drewN | apply below_drew1 | refine below_set ?_ GE235.out | refine below_set ?_ GE236.out) | exact HB.out))⟩; clear BK235 BK236 HB hq_; have BK235 := n0_; have BK236 := n1_; have HB := n2_; clear n0_ n1_ n2_))) | ((with_reducible refine gate_callee (f := 9) rfl ?_); refine goesL_ (some 32) rfl rfl Try.func9 (by kernel_rfl) rfl #[.int .i64 (wrap64 (1 + t238))] rfl (by (try simp only [List.map_toArray, List.map_cons, List.map_nil]); first | done | rfl | (simp only [List.length_drop, List.length_take]; rfl)) ?_; (with_reducible refine (signature_Public.calls k (wrap64 (1 + t238)) t241 t242 _ A8.out).mono ?_); rintro e w' ⟨rfl, ⟨nd, rfl⟩⟩; refine ⟨_, rfl, ?_⟩; (try (rw [drewN_self w12]; generalize hq_ : World.drewN w12 _ = w12; have n0_ : Aside0 (w12.heap[gb235]? = some (.cells #[.int .u32 a2_0, .int .u32 a2_1, .int .u32 a2_2, .int .u32 a2_3] 24 (0, 0))) := ⟨by rw [← hq_]; exact (by (with_reducible repeat (first | refine blk_drewN ?_ _ | refine blk_drew ?_ | refine blk_alloc ?_ _)); exact BK235.out)⟩; have n1_ : Aside0 (w12.heap[gb236]? = some (.cells #[.int .u32 a3_0, .int .u32 a3_1, .int .u32 a3_2, .int .u32 a3_3] 24 (0, 0))) := ⟨by rw [← hq_]; exact (by (with_reducible repeat (first | refine blk_drewN ?_ _ | refine blk_drew ?_ | refine blk_alloc ?_ _)); exact BK236.out)⟩; have n2_ : Aside0 (Below w.heap.size w w12) := ⟨by rw [← hq_]; exact (by repeat (first | (with_reducible first | exact HB.out | apply below_alloc | apply pw_below_drewN | apply below_drew1 | refine below_set ?_ GE235.out | refine below_set ?_ GE236.out) | exact HB.out))⟩; clear BK235 BK236 HB hq_; have BK235 := n0_; have BK236 := n1_; have HB := n2_; clear n0_ n1_ n2_)); have hnb13 := NB235_236.out; have hnc13 := NB236_235.out; have hcz14_0 : w12.cell? ⟨gb235, 0, none⟩ = some (.int .u32 a2_0) := (blk_cell BK235.out 0).trans rfl; have hcz14_1 : w12.cell? ⟨gb235, 1, none⟩ = some (.int .u32 a2_1) := (blk_cell BK235.out 1).trans rfl; have hcz14_2 : w12.cell? ⟨gb235, 2, none⟩ = some (.int .u32 a2_2) := (blk_cell BK235.out 2).trans rfl; have hcz14_3 : w12.cell? ⟨gb235, 3, none⟩ = some (.int .u32 a2_3) := (blk_cell BK235.out 3).trans rfl; have hfz14_0 := blk_frozen BK235.out 0; have hfz14_1 := blk_frozen BK235.out 1; have hfz14_2 := blk_frozen BK235.out 2; have hfz14_3 := blk_frozen BK235.out 3) | ((with_reducible refine gate_callee (f := 11) rfl ?_); refine goesL_ (some 38) rfl rfl Try.func11 (by kernel_rfl) rfl #[.int .i64 (wrap64 (1 + t237)), .agg #[.int .u32 a2_0, .int .u32 a2_1, .int .u32 a2_2, .int .u32 a2_3]] rfl (by (try simp only [List.map_toArray, List.map_cons, List.map_nil]); first | done | rfl | (simp only [List.length_drop, List.length_take]; rfl)) ?_; (with_reducible refine (signature_Sign.calls k (wrap64 (1 + t237)) a2_0 a2_1 a2_2 a2_3 t243 t244 t245 _ A9.out).mono ?_); rintro e w15 ⟨rfl, hb⟩; refine ⟨_, rfl, ?_⟩; have n0_ := Aside0.mk (blk_below (g := gb235) (o := .cells #[.int .u32 a2_0, .int .u32 a2_1, .int .u32 a2_2, .int .u32 a2_3] 24 (0, 0)) (by (with_reducible repeat (first | refine blk_drewN ?_ _ | refine blk_drew ?_ | refine blk_alloc ?_ _)); exact BK235.out) hb); have n1_ := Aside0.mk (blk_below (g := gb236) (o := .cells #[.int .u32 a3_0, .int .u32 a3_1, .int .u32 a3_2, .int .u32 a3_3] 24 (0, 0)) (by (with_reducible repeat (first | refine blk_drewN ?_ _ | refine blk_drew ?_ | refine blk_alloc ?_ _)); exact BK236.out) hb); have n2_ := Aside0.mk (below_step (by repeat (first | (with_reducible first | exact HB.out | apply below_alloc | apply pw_below_drewN | apply below_drew1 | refine below_set ?_ GE235.out | refine below_set ?_ GE236.out) | exact HB.out)) hb); clear BK235; clear BK236; clear HB; have BK235 := n0_; have BK236 := n1_; have HB := n2_; clear n0_ n1_ n2_; (try clear hb); (try clear hb2); (try clear hk); (try clear hi)) | ((with_reducible refine gate_dst (N := 15) rfl ?_); refine box_event ?hg (N := 15) ?hd (cs := #[.int .i64 0, .int .i64 0]) (t := 26) ?hr ?_; (case hd => rfl); (case hg => rfl); (case hr => first | (go_simp; done) | (go_simp; rfl)); intro gb246 hg w16 hbox hb; have n0_ := Aside0.mk (blk_below (g := gb235) (o := .cells #[.int .u32 a2_0, .int .u32 a2_1, .int .u32 a2_2, .int .u32 a2_3] 24 (0, 0)) (by (with_reducible repeat (first | refine blk_drewN ?_ _ | refine blk_drew ?_ | refine blk_alloc ?_ _)); exact BK235.out) hb); have n1_ := Aside0.mk (blk_below (g := gb236) (o := .cells #[.int .u32 a3_0, .int .u32 a3_1, .int .u32 a3_2, .int .u32 a3_3] 24 (0, 0)) (by (with_reducible repeat (first | refine blk_drewN ?_ _ | refine blk_drew ?_ | refine blk_alloc ?_ _)); exact BK236.out) hb); have n2_ := Aside0.mk (below_step (by repeat (first | (with_reducible first | exact HB.out | apply below_alloc | apply pw_below_drewN | apply below_drew1 | refine below_set ?_ GE235.out | refine below_set ?_ GE236.out) | exact HB.out)) hb); have n3_ := Aside0.mk (hbox); have n4_ := Aside0.mk ((by rw [hg]; exact (below_size (by repeat (first | (with_reducible first | exact HB.out | apply below_alloc | apply pw_below_drewN | apply below_drew1 | refine below_set ?_ GE235.out | refine below_set ?_ GE236.out) | exact HB.out))) : w.heap.size ≤ gb246)); have n5_ := Aside0.mk ((by rw [hg]; exact (below_size (by repeat (first | (with_reducible first | exact HB.out | apply below_alloc | apply pw_below_drewN | apply below_drew1 | refine below_set ?_ GE235.out | refine below_set ?_ GE236.out) | exact HB.out))) : w.heap.size ≤ gb246)); have n6_ := Aside0.mk ((by rw [hg]; exact Nat.ne_of_lt (blk_lt (g := gb235) (o := .cells #[.int .u32 a2_0, .int .u32 a2_1, .int .u32 a2_2, .int .u32 a2_3] 24 (0, 0)) (by (with_reducible repeat (first | refine blk_drewN ?_ _ | refine blk_drew ?_ | refine blk_alloc ?_ _)); exact BK235.out)) : gb235 ≠ gb246)); have n7_ := Aside0.mk ((by rw [hg]; exact Nat.ne_of_gt (blk_lt (g := gb235) (o := .cells #[.int .u32 a2_0, .int .u32 a2_1, .int .u32 a2_2, .int .u32 a2_3] 24 (0, 0)) (by (with_reducible repeat (first | refine blk_drewN ?_ _ | refine blk_drew ?_ | refine blk_alloc ?_ _)); exact BK235.out)) : gb246 ≠ gb235)); have n8_ := Aside0.mk ((by rw [hg]; exact Nat.ne_of_lt (blk_lt (g := gb236) (o := .cells #[.int .u32 a3_0, .int .u32 a3_1, .int .u32 a3_2, .int .u32 a3_3] 24 (0, 0)) (by (with_reducible repeat (first | refine blk_drewN ?_ _ | refine blk_drew ?_ | refine blk_alloc ?_ _)); exact BK236.out)) : gb236 ≠ gb246)); have n9_ := Aside0.mk ((by rw [hg]; exact Nat.ne_of_gt (blk_lt (g := gb236) (o := .cells #[.int .u32 a3_0, .int .u32 a3_1, .int .u32 a3_2, .int .u32 a3_3] 24 (0, 0)) (by (with_reducible repeat (first | refine blk_drewN ?_ _ | refine blk_drew ?_ | refine blk_alloc ?_ _)); exact BK236.out)) : gb246 ≠ gb236)); clear BK235; clear BK236; clear HB; have BK235 := n0_; have BK236 := n1_; have HB := n2_; have BK246 := n3_; have GW246 := n4_; have GE246 := n5_; have NB235_246 := n6_; have NB246_235 := n7_; have NB236_246 := n8_; have NB246_236 := n9_; clear n0_ n1_ n2_ n3_ n4_ n5_ n6_ n7_ n8_ n9_; clear hb hbox hg; have hnb17 := NB246_235.out; have hnc17 := NB235_246.out; have hnb18 := NB246_236.out; have hnc18 := NB236_246.out; have hcz19_0 : w16.cell? ⟨gb246, 0, none⟩ = some (.int .i64 0) := (blk_cell BK246.out 0).trans rfl; have hcz19_1 : w16.cell? ⟨gb246, 1, none⟩ = some (.int .i64 0) := (blk_cell BK246.out 1).trans rfl; have hfz19_0 := blk_frozen BK246.out 0; have hfz19_1 := blk_frozen BK246.out 1))
  (try simp only [Act.put, List.setIfInBounds_toArray, List.set_cons_zero, List.set_cons_succ])
  go_cut [50] (fun v50 wc => ∃ (kq : Nat) (x50_9 : Bool), v50 = .bool x50_9 ∧ Aside0 (awardingbodylaw41_SignatureOther.j0 kq (wrap64 (1 + t237)) (wrap64 (1 + t238)) t239 t241 x50_9 a2_0 a2_1 a2_2 a2_3 a3_0 a3_1 a3_2 a3_3 t243 t244 = some r) ∧ Aside0 (kq ≤ k) ∧ Aside0 (wc.heap[gb235]? = some (.cells #[.int .u32 a2_0, .int .u32 a2_1, .int .u32 a2_2, .int .u32 a2_3] 24 (0, 0))) ∧ Aside0 (wc.heap[gb236]? = some (.cells #[.int .u32 a3_0, .int .u32 a3_1, .int .u32 a3_2, .int .u32 a3_3] 24 (0, 0))) ∧ Aside0 (wc.heap[gb246]? = some (.cells #[.int .i64 t243, .int .i64 t244] 26 (0, 0))) ∧ Aside0 (Below w.heap.size w wc))
  case first =>
    have H := HC10.out
    clear HC10
    by_cases c20 : t240 = 0
    · rw [if_pos c20] at H
      have c20b0 : (t240 == 0) = true := beq_iff_eq.mpr c20
      have c20b1 : (t240 != 0) = false := bne_eq_false_iff_eq.mpr c20
      clear c20
      (first | rw [c20b0] | (simp only [i64_w, i32_w]; rw [c20b0]) | skip)
      by_cases c21 : t242 = 0
      · rw [if_pos c21] at H
        have c21b0 : (t242 == 0) = true := beq_iff_eq.mpr c21
        have c21b1 : (t242 != 0) = false := bne_eq_false_iff_eq.mpr c21
        clear c21
        have H' := Aside0.mk H
        clear H
        go_wp2
        go_meet
        case rel => exact ⟨_, ((t245 != 0)), (by first | rfl | (simp; done) | (simp [*]; done)), H', ⟨by first | omega | exact Nat.le_refl _⟩, ⟨by (with_reducible repeat (first | refine blk_drewN ?_ _ | refine blk_drew ?_ | refine blk_alloc ?_ _)); refine blk_far ?_ NB235_246.out _; (with_reducible repeat (first | refine blk_drewN ?_ _ | refine blk_drew ?_ | refine blk_alloc ?_ _)); refine blk_far ?_ NB235_246.out _; (with_reducible repeat (first | refine blk_drewN ?_ _ | refine blk_drew ?_ | refine blk_alloc ?_ _)); exact BK235.out⟩, ⟨by (with_reducible repeat (first | refine blk_drewN ?_ _ | refine blk_drew ?_ | refine blk_alloc ?_ _)); refine blk_far ?_ NB236_246.out _; (with_reducible repeat (first | refine blk_drewN ?_ _ | refine blk_drew ?_ | refine blk_alloc ?_ _)); refine blk_far ?_ NB236_246.out _; (with_reducible repeat (first | refine blk_drewN ?_ _ | refine blk_drew ?_ | refine blk_alloc ?_ _)); exact BK236.out⟩, ⟨by (with_reducible repeat (first | refine blk_drewN ?_ _ | refine blk_drew ?_ | refine blk_alloc ?_ _)); refine blk_put (cs := #[.int .i64 t243, .int .i64 0]) ?_ 1 _ rfl; (with_reducible repeat (first | refine blk_drewN ?_ _ | refine blk_drew ?_ | refine blk_alloc ?_ _)); refine blk_put (cs := #[.int .i64 0, .int .i64 0]) ?_ 0 _ rfl; (with_reducible repeat (first | refine blk_drewN ?_ _ | refine blk_drew ?_ | refine blk_alloc ?_ _)); exact BK246.out⟩, ⟨by repeat (first | (with_reducible first | exact HB.out | apply below_alloc | apply pw_below_drewN | apply below_drew1 | refine below_set ?_ GE235.out | refine below_set ?_ GE236.out | refine below_set ?_ GE246.out) | exact HB.out)⟩⟩
      · rw [if_neg c21] at H
        have c21b0 : (t242 == 0) = false := beq_eq_false_iff_ne.mpr c21
        have c21b1 : (t242 != 0) = true := bne_iff_ne.mpr c21
        have H' := Aside0.mk H
        clear H
        go_wp2
        go_meet
        case rel => exact ⟨_, (true), (by first | rfl | (simp; done) | (simp [*]; done)), H', ⟨by first | omega | exact Nat.le_refl _⟩, ⟨by (with_reducible repeat (first | refine blk_drewN ?_ _ | refine blk_drew ?_ | refine blk_alloc ?_ _)); refine blk_far ?_ NB235_246.out _; (with_reducible repeat (first | refine blk_drewN ?_ _ | refine blk_drew ?_ | refine blk_alloc ?_ _)); refine blk_far ?_ NB235_246.out _; (with_reducible repeat (first | refine blk_drewN ?_ _ | refine blk_drew ?_ | refine blk_alloc ?_ _)); exact BK235.out⟩, ⟨by (with_reducible repeat (first | refine blk_drewN ?_ _ | refine blk_drew ?_ | refine blk_alloc ?_ _)); refine blk_far ?_ NB236_246.out _; (with_reducible repeat (first | refine blk_drewN ?_ _ | refine blk_drew ?_ | refine blk_alloc ?_ _)); refine blk_far ?_ NB236_246.out _; (with_reducible repeat (first | refine blk_drewN ?_ _ | refine blk_drew ?_ | refine blk_alloc ?_ _)); exact BK236.out⟩, ⟨by (with_reducible repeat (first | refine blk_drewN ?_ _ | refine blk_drew ?_ | refine blk_alloc ?_ _)); refine blk_put (cs := #[.int .i64 t243, .int .i64 0]) ?_ 1 _ rfl; (with_reducible repeat (first | refine blk_drewN ?_ _ | refine blk_drew ?_ | refine blk_alloc ?_ _)); refine blk_put (cs := #[.int .i64 0, .int .i64 0]) ?_ 0 _ rfl; (with_reducible repeat (first | refine blk_drewN ?_ _ | refine blk_drew ?_ | refine blk_alloc ?_ _)); exact BK246.out⟩, ⟨by repeat (first | (with_reducible first | exact HB.out | apply below_alloc | apply pw_below_drewN | apply below_drew1 | refine below_set ?_ GE235.out | refine below_set ?_ GE236.out | refine below_set ?_ GE246.out) | exact HB.out)⟩⟩
    · rw [if_neg c20] at H
      have c20b0 : (t240 == 0) = false := beq_eq_false_iff_ne.mpr c20
      have c20b1 : (t240 != 0) = true := bne_iff_ne.mpr c20
      (first | rw [c20b0] | (simp only [i64_w, i32_w]; rw [c20b0]) | skip)
      have H' := Aside0.mk H
      clear H
      go_wp2
      go_meet
      case rel => exact ⟨_, (true), (by first | rfl | (simp; done) | (simp [*]; done)), H', ⟨by first | omega | exact Nat.le_refl _⟩, ⟨by (with_reducible repeat (first | refine blk_drewN ?_ _ | refine blk_drew ?_ | refine blk_alloc ?_ _)); refine blk_far ?_ NB235_246.out _; (with_reducible repeat (first | refine blk_drewN ?_ _ | refine blk_drew ?_ | refine blk_alloc ?_ _)); refine blk_far ?_ NB235_246.out _; (with_reducible repeat (first | refine blk_drewN ?_ _ | refine blk_drew ?_ | refine blk_alloc ?_ _)); exact BK235.out⟩, ⟨by (with_reducible repeat (first | refine blk_drewN ?_ _ | refine blk_drew ?_ | refine blk_alloc ?_ _)); refine blk_far ?_ NB236_246.out _; (with_reducible repeat (first | refine blk_drewN ?_ _ | refine blk_drew ?_ | refine blk_alloc ?_ _)); refine blk_far ?_ NB236_246.out _; (with_reducible repeat (first | refine blk_drewN ?_ _ | refine blk_drew ?_ | refine blk_alloc ?_ _)); exact BK236.out⟩, ⟨by (with_reducible repeat (first | refine blk_drewN ?_ _ | refine blk_drew ?_ | refine blk_alloc ?_ _)); refine blk_put (cs := #[.int .i64 t243, .int .i64 0]) ?_ 1 _ rfl; (with_reducible repeat (first | refine blk_drewN ?_ _ | refine blk_drew ?_ | refine blk_alloc ?_ _)); refine blk_put (cs := #[.int .i64 0, .int .i64 0]) ?_ 0 _ rfl; (with_reducible repeat (first | refine blk_drewN ?_ _ | refine blk_drew ?_ | refine blk_alloc ?_ _)); exact BK246.out⟩, ⟨by repeat (first | (with_reducible first | exact HB.out | apply below_alloc | apply pw_below_drewN | apply below_drew1 | refine below_set ?_ GE235.out | refine below_set ?_ GE236.out | refine below_set ?_ GE246.out) | exact HB.out)⟩⟩
  case rest =>
    clear HC10
    try clear c1
    try clear c2
    try clear p2
    try clear p6
    try clear c7
    try clear c8
    try clear c9
    try clear c11
    try clear c13
    try clear c17
    try clear c18
    try clear c20
    try clear c20b0
    try clear c20b1
    try clear c21
    try clear c21b0
    try clear c21b1
    try clear hcz14_0
    try clear hcz14_1
    try clear hcz14_2
    try clear hcz14_3
    try clear hcz19_0
    try clear hcz19_1
    try clear hfz14_0
    try clear hfz14_1
    try clear hfz14_2
    try clear hfz14_3
    try clear hfz19_0
    try clear hfz19_1
    obtain ⟨kq, x50_9, rfl, HA, HJ9, BK235, BK236, BK246, HB⟩ := hcut
    cases kq with
    | zero => exact absurd HA.out (by simp [awardingbodylaw41_SignatureOther.j0])
    | succ kj9 =>
      have H := HA.out
      clear HA
      simp only [awardingbodylaw41_SignatureOther.j0] at H
      by_cases c22 : x50_9 = true
      · subst c22
        have H1 : (some false) = some r := by rw [if_pos rfl] at H; exact H
        clear H
        have H := H1
        clear H1
        obtain rfl := Option.some.inj H
        go_wp2
        go_ret
        exact ⟨by first | rfl | (simp [errW_none, errW_some] <;> rfl) | (simp [*, errW_none, errW_some] <;> rfl), by repeat (first | (with_reducible first | exact HB.out | apply below_alloc | apply pw_below_drewN | apply below_drew1 | refine below_set ?_ GE235.out | refine below_set ?_ GE236.out | refine below_set ?_ GE246.out) | exact HB.out)⟩
      · replace c22 := Bool.eq_false_iff.mpr c22
        subst c22
        have H1 : ((signature_Challenge.f kj9 t243 t239 a2_0 a2_1 a2_2 a2_3).bind fun t247 => ((signature_Challenge.f kj9 t243 t239 a3_0 a3_1 a3_2 a3_3).bind fun t248 => ((signature_Challenge.f kj9 t243 t239 a2_0 a2_1 a2_2 a2_3).bind fun t249 => ((signature_Challenge.f kj9 t243 t241 a2_0 a2_1 a2_2 a2_3).bind fun t250 => ((signature_Verify.f kj9 t239 a3_0 a3_1 a3_2 a3_3 t243 t244).bind fun t251 => (if (t251 == (t247 == t248)) = true then ((signature_Verify.f kj9 t241 a2_0 a2_1 a2_2 a2_3 t243 t244).bind fun t252 => (if (t252 == ((Int.tmod (wrap64 ((wrap64 (t249 * (wrap64 (1 + t237)))) - (wrap64 (t250 * (wrap64 (1 + t238)))))) 1073741789) == 0)) = true then ((awardingbodylaw41_sane.f kj9).bind fun t253 => (some t253)) else (some false))) else (some false))))))) = some r := by rw [if_neg (show ¬ (false = true) by decide)] at H; exact H
        clear H
        have H := H1
        clear H1
        replace H := Option.bind_eq_some_iff.mp H
        obtain ⟨t247, A230, H⟩ := H
        replace H : ((signature_Challenge.f kj9 t243 t239 a3_0 a3_1 a3_2 a3_3).bind fun t248 => ((signature_Challenge.f kj9 t243 t239 a2_0 a2_1 a2_2 a2_3).bind fun t249 => ((signature_Challenge.f kj9 t243 t241 a2_0 a2_1 a2_2 a2_3).bind fun t250 => ((signature_Verify.f kj9 t239 a3_0 a3_1 a3_2 a3_3 t243 t244).bind fun t251 => (if (t251 == (t247 == t248)) = true then ((signature_Verify.f kj9 t241 a2_0 a2_1 a2_2 a2_3 t243 t244).bind fun t252 => (if (t252 == ((Int.tmod (wrap64 ((wrap64 (t249 * (wrap64 (1 + t237)))) - (wrap64 (t250 * (wrap64 (1 + t238)))))) 1073741789) == 0)) = true then ((awardingbodylaw41_sane.f kj9).bind fun t253 => (some t253)) else (some false))) else (some false)))))) = some r := H
        have A23 := Aside0.mk A230
        clear A230
        replace H := Option.bind_eq_some_iff.mp H
        obtain ⟨t248, A240, H⟩ := H
        replace H : ((signature_Challenge.f kj9 t243 t239 a2_0 a2_1 a2_2 a2_3).bind fun t249 => ((signature_Challenge.f kj9 t243 t241 a2_0 a2_1 a2_2 a2_3).bind fun t250 => ((signature_Verify.f kj9 t239 a3_0 a3_1 a3_2 a3_3 t243 t244).bind fun t251 => (if (t251 == (t247 == t248)) = true then ((signature_Verify.f kj9 t241 a2_0 a2_1 a2_2 a2_3 t243 t244).bind fun t252 => (if (t252 == ((Int.tmod (wrap64 ((wrap64 (t249 * (wrap64 (1 + t237)))) - (wrap64 (t250 * (wrap64 (1 + t238)))))) 1073741789) == 0)) = true then ((awardingbodylaw41_sane.f kj9).bind fun t253 => (some t253)) else (some false))) else (some false))))) = some r := H
        have A24 := Aside0.mk A240
        clear A240
        replace H := Option.bind_eq_some_iff.mp H
        obtain ⟨t249, A250, H⟩ := H
        replace H : ((signature_Challenge.f kj9 t243 t241 a2_0 a2_1 a2_2 a2_3).bind fun t250 => ((signature_Verify.f kj9 t239 a3_0 a3_1 a3_2 a3_3 t243 t244).bind fun t251 => (if (t251 == (t247 == t248)) = true then ((signature_Verify.f kj9 t241 a2_0 a2_1 a2_2 a2_3 t243 t244).bind fun t252 => (if (t252 == ((Int.tmod (wrap64 ((wrap64 (t249 * (wrap64 (1 + t237)))) - (wrap64 (t250 * (wrap64 (1 + t238)))))) 1073741789) == 0)) = true then ((awardingbodylaw41_sane.f kj9).bind fun t253 => (some t253)) else (some false))) else (some false)))) = some r := H
        have A25 := Aside0.mk A250
        clear A250
        replace H := Option.bind_eq_some_iff.mp H
        obtain ⟨t250, A260, H⟩ := H
        replace H : ((signature_Verify.f kj9 t239 a3_0 a3_1 a3_2 a3_3 t243 t244).bind fun t251 => (if (t251 == (t247 == t248)) = true then ((signature_Verify.f kj9 t241 a2_0 a2_1 a2_2 a2_3 t243 t244).bind fun t252 => (if (t252 == ((Int.tmod (wrap64 ((wrap64 (t249 * (wrap64 (1 + t237)))) - (wrap64 (t250 * (wrap64 (1 + t238)))))) 1073741789) == 0)) = true then ((awardingbodylaw41_sane.f kj9).bind fun t253 => (some t253)) else (some false))) else (some false))) = some r := H
        have A26 := Aside0.mk A260
        clear A260
        replace H := Option.bind_eq_some_iff.mp H
        obtain ⟨t251, A270, H⟩ := H
        replace H : (if (t251 == (t247 == t248)) = true then ((signature_Verify.f kj9 t241 a2_0 a2_1 a2_2 a2_3 t243 t244).bind fun t252 => (if (t252 == ((Int.tmod (wrap64 ((wrap64 (t249 * (wrap64 (1 + t237)))) - (wrap64 (t250 * (wrap64 (1 + t238)))))) 1073741789) == 0)) = true then ((awardingbodylaw41_sane.f kj9).bind fun t253 => (some t253)) else (some false))) else (some false)) = some r := H
        have A27 := Aside0.mk A270
        clear A270
        by_cases c28 : (t251 == (t247 == t248)) = true
        · rw [if_pos c28] at H
          have c28b0 : (t251 == (t247 == t248)) = true := c28
          (try (have c28b1 : decide (t251 = (t247 == t248)) = true := by simpa using c28))
          (try (have c28b2 : (t251 == (t247 == t248)) = true := by simpa using c28))
          clear c28
          replace H := Option.bind_eq_some_iff.mp H
          obtain ⟨t252, A290, H⟩ := H
          replace H : (if (t252 == ((Int.tmod (wrap64 ((wrap64 (t249 * (wrap64 (1 + t237)))) - (wrap64 (t250 * (wrap64 (1 + t238)))))) 1073741789) == 0)) = true then ((awardingbodylaw41_sane.f kj9).bind fun t253 => (some t253)) else (some false)) = some r := H
          have A29 := Aside0.mk A290
          clear A290
          by_cases c30 : (t252 == ((Int.tmod (wrap64 ((wrap64 (t249 * (wrap64 (1 + t237)))) - (wrap64 (t250 * (wrap64 (1 + t238)))))) 1073741789) == 0)) = true
          · rw [if_pos c30] at H
            have c30b0 : (t252 == ((Int.tmod (wrap64 ((wrap64 (t249 * (wrap64 (1 + t237)))) - (wrap64 (t250 * (wrap64 (1 + t238)))))) 1073741789) == 0)) = true := c30
            (try (have c30b1 : decide (t252 = ((Int.tmod (wrap64 ((wrap64 (t249 * (wrap64 (1 + t237)))) - (wrap64 (t250 * (wrap64 (1 + t238)))))) 1073741789) == 0)) = true := by simpa using c30))
            (try (have c30b2 : (t252 == ((Int.tmod (wrap64 ((wrap64 (t249 * (wrap64 (1 + t237)))) - (wrap64 (t250 * (wrap64 (1 + t238)))))) 1073741789) == 0)) = true := by simpa using c30))
            clear c30
            replace H := Option.bind_eq_some_iff.mp H
            obtain ⟨t253, A310, H⟩ := H
            replace H : (some t253) = some r := H
            have A31 := Aside0.mk A310
            clear A310
            obtain rfl := Option.some.inj H
            try go_wp2
            have n0_ := Aside0.mk (blk_drew BK235.out)
            have n1_ := Aside0.mk (blk_drew BK236.out)
            have n2_ := Aside0.mk (blk_drew BK246.out)
            have n3_ := Aside0.mk (below_drew1 HB.out)
            clear BK235
            clear BK236
            clear BK246
            clear HB
            have BK235 := n0_
            have BK236 := n1_
            have BK246 := n2_
            have HB := n3_
            clear n0_ n1_ n2_ n3_
            refine start_ (n := 12) (S := fun w' => w'.cell? ⟨gb246, 0, none⟩ = some (.int .i64 t243) ∧ w'.cell? ⟨gb246, 1, none⟩ = some (.int .i64 t244) ∧ w'.cell? ⟨gb235, 0, none⟩ = some (.int .u32 a2_0) ∧ w'.cell? ⟨gb235, 1, none⟩ = some (.int .u32 a2_1) ∧ w'.cell? ⟨gb235, 2, none⟩ = some (.int .u32 a2_2) ∧ w'.cell? ⟨gb235, 3, none⟩ = some (.int .u32 a2_3) ∧ w'.cell? ⟨gb236, 0, none⟩ = some (.int .u32 a3_0) ∧ w'.cell? ⟨gb236, 1, none⟩ = some (.int .u32 a3_1) ∧ w'.cell? ⟨gb236, 2, none⟩ = some (.int .u32 a3_2) ∧ w'.cell? ⟨gb236, 3, none⟩ = some (.int .u32 a3_3)) (ds := []) #[false, false, false, false, false, false, false, false, false, false, false, false] (by kernel_rfl) rfl rfl ⟨(blk_cell BK246.out 0).trans rfl, (blk_cell BK246.out 1).trans rfl, (blk_cell BK235.out 0).trans rfl, (blk_cell BK235.out 1).trans rfl, (blk_cell BK235.out 2).trans rfl, (blk_cell BK235.out 3).trans rfl, (blk_cell BK236.out 0).trans rfl, (blk_cell BK236.out 1).trans rfl, (blk_cell BK236.out 2).trans rfl, (blk_cell BK236.out 3).trans rfl⟩ (fun hHeld => ?_); refine with_tabW awardingbodylaw41_SignatureOther.tab7 awardingbodylaw41_SignatureOther.bits7 (fun HT_ HW_ => ?_)
            generalize wc.drew = w32 at BK235 BK236 BK246 HB hHeld ⊢
            refine pure_ (i := 0) (N := some 51) (v := ?_) (a' := ?_) #[true, false, false, false, false, false, false, false, false, false, false, false] rfl rfl (any_of HT_.out (by kernel_rfl)) (fun _ _ _ h => h) (Or.inl ⟨by rfl, ?_⟩) ?_ ?_
            rotate_left
            · intro w'
              go_simp
              with_reducible rfl
            rotate_left
            · simp only [Act.put, List.setIfInBounds_toArray, List.set_cons_zero, List.set_cons_succ, i64_w, i32_w]
              rfl
            refine pure_ (i := 2) (N := some 53) (v := ?_) (a' := ?_) #[true, false, true, false, false, false, false, false, false, false, false, false] rfl rfl (any_of HT_.out (by kernel_rfl)) (fun _ _ _ h => h) (Or.inl ⟨by rfl, ?_⟩) ?_ ?_
            rotate_left
            · intro w'
              go_simp
              with_reducible rfl
            rotate_left
            · simp only [Act.put, List.setIfInBounds_toArray, List.set_cons_zero, List.set_cons_succ, i64_w, i32_w]
              rfl
            refine pure_ (i := 5) (N := some 56) (v := ?_) (a' := ?_) #[true, false, true, false, false, true, false, false, false, false, false, false] rfl rfl (any_of HT_.out (by kernel_rfl)) (fun _ _ _ h => h) (Or.inl ⟨by rfl, ?_⟩) ?_ ?_
            rotate_left
            · intro w'
              go_simp
              with_reducible rfl
            rotate_left
            · simp only [Act.put, List.setIfInBounds_toArray, List.set_cons_zero, List.set_cons_succ, i64_w, i32_w]
              rfl
            refine pure_ (i := 7) (N := some 58) (v := ?_) (a' := ?_) #[true, false, true, false, false, true, false, true, false, false, false, false] rfl rfl (any_of HT_.out (by kernel_rfl)) (fun _ _ _ h => h) (Or.inl ⟨by rfl, ?_⟩) ?_ ?_
            rotate_left
            · intro w'
              go_simp
              with_reducible rfl
            rotate_left
            · simp only [Act.put, List.setIfInBounds_toArray, List.set_cons_zero, List.set_cons_succ, i64_w, i32_w]
              rfl
            refine take_ (i := 1) (N := some 52) (v := ?_) (a' := ?_) #[true, true, true, false, false, true, false, true, false, false, false, false] rfl rfl (take_ofW HT_.out HW_.out (by kernel_rfl)) (fun _ _ _ h => h) (Or.inl ⟨by rfl, ?_⟩) hHeld ?_ ?_
            rotate_left
            · rintro w' ⟨s0, s1, s2, s3, s4, s5, s6, s7, s8, s9⟩
              go_simp
              with_reducible rfl
            rotate_left
            · simp only [Act.put, List.setIfInBounds_toArray, List.set_cons_zero, List.set_cons_succ, i64_w, i32_w]
              rfl
            refine take_ (i := 3) (N := some 54) (v := ?_) (a' := ?_) #[true, true, true, true, false, true, false, true, false, false, false, false] rfl rfl (take_ofW HT_.out HW_.out (by kernel_rfl)) (fun _ _ _ h => h) (Or.inl ⟨by rfl, ?_⟩) hHeld ?_ ?_
            rotate_left
            · rintro w' ⟨s0, s1, s2, s3, s4, s5, s6, s7, s8, s9⟩
              go_simp
              with_reducible rfl
            rotate_left
            · simp only [Act.put, List.setIfInBounds_toArray, List.set_cons_zero, List.set_cons_succ, i64_w, i32_w]
              rfl
            refine take_ (i := 6) (N := some 57) (v := ?_) (a' := ?_) #[true, true, true, true, false, true, true, true, false, false, false, false] rfl rfl (take_ofW HT_.out HW_.out (by kernel_rfl)) (fun _ _ _ h => h) (Or.inl ⟨by rfl, ?_⟩) hHeld ?_ ?_
            rotate_left
            · rintro w' ⟨s0, s1, s2, s3, s4, s5, s6, s7, s8, s9⟩
              go_simp
              with_reducible rfl
            rotate_left
            · simp only [Act.put, List.setIfInBounds_toArray, List.set_cons_zero, List.set_cons_succ, i64_w, i32_w]
              rfl
            refine take_ (i := 8) (N := some 59) (v := ?_) (a' := ?_) #[true, true, true, true, false, true, true, true, true, false, false, false] rfl rfl (take_ofW HT_.out HW_.out (by kernel_rfl)) (fun _ _ _ h => h) (Or.inl ⟨by rfl, ?_⟩) hHeld ?_ ?_
            rotate_left
            · rintro w' ⟨s0, s1, s2, s3, s4, s5, s6, s7, s8, s9⟩
              go_simp
              with_reducible rfl
            rotate_left
            · simp only [Act.put, List.setIfInBounds_toArray, List.set_cons_zero, List.set_cons_succ, i64_w, i32_w]
              rfl
            refine one_ (i := 4) (N := some 55) #[true, true, true, true, true, true, true, true, true, false, false, false] rfl rfl (one_of HT_.out (by kernel_rfl)) (by decide) (fun K hK => ?_)
            refine goes_ Try.func17 (by kernel_rfl) rfl #[.int .i64 t243, .int .i64 t239, .agg #[.int .u32 a2_0, .int .u32 a2_1, .int .u32 a2_2, .int .u32 a2_3]] (by rfl) rfl rfl (by (try simp only [List.map_toArray, List.map_cons, List.map_nil]); first | done | rfl | (simp only [List.length_drop, List.length_take]; rfl)) ?_
            with_reducible refine (signature_Challenge.calls kj9 t243 t239 a2_0 a2_1 a2_2 a2_3 t247 _ A23.out).mono ?_
            rintro e w33 ⟨rfl, hb⟩
            refine ⟨_, rfl, ?_⟩
            have n0_ := Aside0.mk (blk_below (g := gb235) (o := .cells #[.int .u32 a2_0, .int .u32 a2_1, .int .u32 a2_2, .int .u32 a2_3] 24 (0, 0)) (by (with_reducible repeat (first | refine blk_drewN ?_ _ | refine blk_drew ?_ | refine blk_alloc ?_ _)); exact BK235.out) hb)
            have n1_ := Aside0.mk (blk_below (g := gb236) (o := .cells #[.int .u32 a3_0, .int .u32 a3_1, .int .u32 a3_2, .int .u32 a3_3] 24 (0, 0)) (by (with_reducible repeat (first | refine blk_drewN ?_ _ | refine blk_drew ?_ | refine blk_alloc ?_ _)); exact BK236.out) hb)
            have n2_ := Aside0.mk (blk_below (g := gb246) (o := .cells #[.int .i64 t243, .int .i64 t244] 26 (0, 0)) (by (with_reducible repeat (first | refine blk_drewN ?_ _ | refine blk_drew ?_ | refine blk_alloc ?_ _)); exact BK246.out) hb)
            have n3_ := Aside0.mk (below_step (by repeat (first | (with_reducible first | exact HB.out | apply below_alloc | apply pw_below_drewN | apply below_drew1 | refine below_set ?_ GE235.out | refine below_set ?_ GE236.out | refine below_set ?_ GE246.out) | exact HB.out)) hb)
            clear BK235
            clear BK236
            clear BK246
            clear HB
            have BK235 := n0_
            have BK236 := n1_
            have BK246 := n2_
            have HB := n3_
            clear n0_ n1_ n2_ n3_
            (try clear hb)
            (try clear hb2)
            (try clear hk)
            (try clear hi)
            refine hK.out _ _ ⟨(blk_cell BK246.out 0).trans rfl, (blk_cell BK246.out 1).trans rfl, (blk_cell BK235.out 0).trans rfl, (blk_cell BK235.out 1).trans rfl, (blk_cell BK235.out 2).trans rfl, (blk_cell BK235.out 3).trans rfl, (blk_cell BK236.out 0).trans rfl, (blk_cell BK236.out 1).trans rfl, (blk_cell BK236.out 2).trans rfl, (blk_cell BK236.out 3).trans rfl⟩ (fun hHeld => ?_)
            clear hK K
            refine norm_ (a' := ?_) ?_ ?_
            rotate_left
            · show Act.put _ (some 55) _ = _
              simp only [Act.put, List.setIfInBounds_toArray, List.set_cons_zero, List.set_cons_succ, i64_w, i32_w]
              rfl
            refine one_ (i := 9) (N := some 60) #[true, true, true, true, true, true, true, true, true, true, false, false] rfl rfl (one_of HT_.out (by kernel_rfl)) (by decide) (fun K hK => ?_)
            refine goes_ Try.func17 (by kernel_rfl) rfl #[.int .i64 t243, .int .i64 t239, .agg #[.int .u32 a3_0, .int .u32 a3_1, .int .u32 a3_2, .int .u32 a3_3]] (by rfl) rfl rfl (by (try simp only [List.map_toArray, List.map_cons, List.map_nil]); first | done | rfl | (simp only [List.length_drop, List.length_take]; rfl)) ?_
            with_reducible refine (signature_Challenge.calls kj9 t243 t239 a3_0 a3_1 a3_2 a3_3 t248 _ A24.out).mono ?_
            rintro e w34 ⟨rfl, hb⟩
            refine ⟨_, rfl, ?_⟩
            have n0_ := Aside0.mk (blk_below (g := gb235) (o := .cells #[.int .u32 a2_0, .int .u32 a2_1, .int .u32 a2_2, .int .u32 a2_3] 24 (0, 0)) (by (with_reducible repeat (first | refine blk_drewN ?_ _ | refine blk_drew ?_ | refine blk_alloc ?_ _)); exact BK235.out) hb)
            have n1_ := Aside0.mk (blk_below (g := gb236) (o := .cells #[.int .u32 a3_0, .int .u32 a3_1, .int .u32 a3_2, .int .u32 a3_3] 24 (0, 0)) (by (with_reducible repeat (first | refine blk_drewN ?_ _ | refine blk_drew ?_ | refine blk_alloc ?_ _)); exact BK236.out) hb)
            have n2_ := Aside0.mk (blk_below (g := gb246) (o := .cells #[.int .i64 t243, .int .i64 t244] 26 (0, 0)) (by (with_reducible repeat (first | refine blk_drewN ?_ _ | refine blk_drew ?_ | refine blk_alloc ?_ _)); exact BK246.out) hb)
            have n3_ := Aside0.mk (below_step (by repeat (first | (with_reducible first | exact HB.out | apply below_alloc | apply pw_below_drewN | apply below_drew1 | refine below_set ?_ GE235.out | refine below_set ?_ GE236.out | refine below_set ?_ GE246.out) | exact HB.out)) hb)
            clear BK235
            clear BK236
            clear BK246
            clear HB
            have BK235 := n0_
            have BK236 := n1_
            have BK246 := n2_
            have HB := n3_
            clear n0_ n1_ n2_ n3_
            (try clear hb)
            (try clear hb2)
            (try clear hk)
            (try clear hi)
            refine hK.out _ _ ⟨(blk_cell BK246.out 0).trans rfl, (blk_cell BK246.out 1).trans rfl, (blk_cell BK235.out 0).trans rfl, (blk_cell BK235.out 1).trans rfl, (blk_cell BK235.out 2).trans rfl, (blk_cell BK235.out 3).trans rfl, (blk_cell BK236.out 0).trans rfl, (blk_cell BK236.out 1).trans rfl, (blk_cell BK236.out 2).trans rfl, (blk_cell BK236.out 3).trans rfl⟩ (fun hHeld => ?_)
            clear hK K
            refine norm_ (a' := ?_) ?_ ?_
            rotate_left
            · show Act.put _ (some 60) _ = _
              simp only [Act.put, List.setIfInBounds_toArray, List.set_cons_zero, List.set_cons_succ, i64_w, i32_w]
              rfl
            refine pure_ (i := 10) (N := some 61) (v := ?_) (a' := ?_) #[true, true, true, true, true, true, true, true, true, true, true, false] rfl rfl (any_of HT_.out (by kernel_rfl)) (fun _ _ _ h => h) (Or.inl ⟨by rfl, ?_⟩) ?_ ?_
            rotate_left
            · intro w'
              go_simp
              with_reducible rfl
            rotate_left
            · simp only [Act.put, List.setIfInBounds_toArray, List.set_cons_zero, List.set_cons_succ, i64_w, i32_w]
              rfl
            refine pure_ (i := 11) (N := some 17) (v := ?_) (a' := ?_) #[true, true, true, true, true, true, true, true, true, true, true, true] rfl rfl (any_of HT_.out (by kernel_rfl)) (fun _ _ _ h => h) (Or.inl ⟨by rfl, ?_⟩) ?_ ?_
            rotate_left
            · intro w'
              go_simp
              with_reducible rfl
            rotate_left
            · simp only [Act.put, List.setIfInBounds_toArray, List.set_cons_zero, List.set_cons_succ, i64_w, i32_w]
              rfl
            refine done_ (done_of HT_.out (by kernel_rfl)) ?_
            try go_wp2
            have n0_ := Aside0.mk (blk_drew BK235.out)
            have n1_ := Aside0.mk (blk_drew BK236.out)
            have n2_ := Aside0.mk (blk_drew BK246.out)
            have n3_ := Aside0.mk (below_drew1 HB.out)
            clear BK235
            clear BK236
            clear BK246
            clear HB
            have BK235 := n0_
            have BK236 := n1_
            have BK246 := n2_
            have HB := n3_
            clear n0_ n1_ n2_ n3_
            refine start_ (n := 18) (S := fun w' => w'.cell? ⟨gb246, 0, none⟩ = some (.int .i64 t243) ∧ w'.cell? ⟨gb246, 1, none⟩ = some (.int .i64 t244) ∧ w'.cell? ⟨gb235, 0, none⟩ = some (.int .u32 a2_0) ∧ w'.cell? ⟨gb235, 1, none⟩ = some (.int .u32 a2_1) ∧ w'.cell? ⟨gb235, 2, none⟩ = some (.int .u32 a2_2) ∧ w'.cell? ⟨gb235, 3, none⟩ = some (.int .u32 a2_3)) (ds := []) #[false, false, false, false, false, false, false, false, false, false, false, false, false, false, false, false, false, false] (by kernel_rfl) rfl rfl ⟨(blk_cell BK246.out 0).trans rfl, (blk_cell BK246.out 1).trans rfl, (blk_cell BK235.out 0).trans rfl, (blk_cell BK235.out 1).trans rfl, (blk_cell BK235.out 2).trans rfl, (blk_cell BK235.out 3).trans rfl⟩ (fun hHeld => ?_); refine with_tabW awardingbodylaw41_SignatureOther.tab8 awardingbodylaw41_SignatureOther.bits8 (fun HT_ HW_ => ?_)
            generalize w34.drew = w35 at BK235 BK236 BK246 HB hHeld ⊢
            refine pure_ (i := 0) (N := some 62) (v := ?_) (a' := ?_) #[true, false, false, false, false, false, false, false, false, false, false, false, false, false, false, false, false, false] rfl rfl (any_of HT_.out (by kernel_rfl)) (fun _ _ _ h => h) (Or.inl ⟨by rfl, ?_⟩) ?_ ?_
            rotate_left
            · intro w'
              go_simp
              with_reducible rfl
            rotate_left
            · simp only [Act.put, List.setIfInBounds_toArray, List.set_cons_zero, List.set_cons_succ, i64_w, i32_w]
              rfl
            refine pure_ (i := 2) (N := some 64) (v := ?_) (a' := ?_) #[true, false, true, false, false, false, false, false, false, false, false, false, false, false, false, false, false, false] rfl rfl (any_of HT_.out (by kernel_rfl)) (fun _ _ _ h => h) (Or.inl ⟨by rfl, ?_⟩) ?_ ?_
            rotate_left
            · intro w'
              go_simp
              with_reducible rfl
            rotate_left
            · simp only [Act.put, List.setIfInBounds_toArray, List.set_cons_zero, List.set_cons_succ, i64_w, i32_w]
              rfl
            refine pure_ (i := 5) (N := some 67) (v := ?_) (a' := ?_) #[true, false, true, false, false, true, false, false, false, false, false, false, false, false, false, false, false, false] rfl rfl (any_of HT_.out (by kernel_rfl)) (fun _ _ _ h => h) (Or.inl ⟨by rfl, ?_⟩) ?_ ?_
            rotate_left
            · intro w'
              go_simp
              with_reducible rfl
            rotate_left
            · simp only [Act.put, List.setIfInBounds_toArray, List.set_cons_zero, List.set_cons_succ, i64_w, i32_w]
              rfl
            refine pure_ (i := 7) (N := some 69) (v := ?_) (a' := ?_) #[true, false, true, false, false, true, false, true, false, false, false, false, false, false, false, false, false, false] rfl rfl (any_of HT_.out (by kernel_rfl)) (fun _ _ _ h => h) (Or.inl ⟨by rfl, ?_⟩) ?_ ?_
            rotate_left
            · intro w'
              go_simp
              with_reducible rfl
            rotate_left
            · simp only [Act.put, List.setIfInBounds_toArray, List.set_cons_zero, List.set_cons_succ, i64_w, i32_w]
              rfl
            refine pure_ (i := 9) (N := some 71) (v := ?_) (a' := ?_) #[true, false, true, false, false, true, false, true, false, true, false, false, false, false, false, false, false, false] rfl rfl (any_of HT_.out (by kernel_rfl)) (fun _ _ _ h => h) (Or.inl ⟨by rfl, ?_⟩) ?_ ?_
            rotate_left
            · intro w'
              go_simp
              with_reducible rfl
            rotate_left
            · simp only [Act.put, List.setIfInBounds_toArray, List.set_cons_zero, List.set_cons_succ, i64_w, i32_w]
              rfl
            refine pure_ (i := 12) (N := some 74) (v := ?_) (a' := ?_) #[true, false, true, false, false, true, false, true, false, true, false, false, true, false, false, false, false, false] rfl rfl (any_of HT_.out (by kernel_rfl)) (fun _ _ _ h => h) (Or.inl ⟨by rfl, ?_⟩) ?_ ?_
            rotate_left
            · intro w'
              go_simp
              with_reducible rfl
            rotate_left
            · simp only [Act.put, List.setIfInBounds_toArray, List.set_cons_zero, List.set_cons_succ, i64_w, i32_w]
              rfl
            refine take_ (i := 1) (N := some 63) (v := ?_) (a' := ?_) #[true, true, true, false, false, true, false, true, false, true, false, false, true, false, false, false, false, false] rfl rfl (take_ofW HT_.out HW_.out (by kernel_rfl)) (fun _ _ _ h => h) (Or.inl ⟨by rfl, ?_⟩) hHeld ?_ ?_
            rotate_left
            · rintro w' ⟨s0, s1, s2, s3, s4, s5⟩
              go_simp
              with_reducible rfl
            rotate_left
            · simp only [Act.put, List.setIfInBounds_toArray, List.set_cons_zero, List.set_cons_succ, i64_w, i32_w]
              rfl
            refine take_ (i := 3) (N := some 65) (v := ?_) (a' := ?_) #[true, true, true, true, false, true, false, true, false, true, false, false, true, false, false, false, false, false] rfl rfl (take_ofW HT_.out HW_.out (by kernel_rfl)) (fun _ _ _ h => h) (Or.inl ⟨by rfl, ?_⟩) hHeld ?_ ?_
            rotate_left
            · rintro w' ⟨s0, s1, s2, s3, s4, s5⟩
              go_simp
              with_reducible rfl
            rotate_left
            · simp only [Act.put, List.setIfInBounds_toArray, List.set_cons_zero, List.set_cons_succ, i64_w, i32_w]
              rfl
            refine take_ (i := 8) (N := some 70) (v := ?_) (a' := ?_) #[true, true, true, true, false, true, false, true, true, true, false, false, true, false, false, false, false, false] rfl rfl (take_ofW HT_.out HW_.out (by kernel_rfl)) (fun _ _ _ h => h) (Or.inl ⟨by rfl, ?_⟩) hHeld ?_ ?_
            rotate_left
            · rintro w' ⟨s0, s1, s2, s3, s4, s5⟩
              go_simp
              with_reducible rfl
            rotate_left
            · simp only [Act.put, List.setIfInBounds_toArray, List.set_cons_zero, List.set_cons_succ, i64_w, i32_w]
              rfl
            refine take_ (i := 10) (N := some 72) (v := ?_) (a' := ?_) #[true, true, true, true, false, true, false, true, true, true, true, false, true, false, false, false, false, false] rfl rfl (take_ofW HT_.out HW_.out (by kernel_rfl)) (fun _ _ _ h => h) (Or.inl ⟨by rfl, ?_⟩) hHeld ?_ ?_
            rotate_left
            · rintro w' ⟨s0, s1, s2, s3, s4, s5⟩
              go_simp
              with_reducible rfl
            rotate_left
            · simp only [Act.put, List.setIfInBounds_toArray, List.set_cons_zero, List.set_cons_succ, i64_w, i32_w]
              rfl
            refine one_ (i := 4) (N := some 66) #[true, true, true, true, true, true, false, true, true, true, true, false, true, false, false, false, false, false] rfl rfl (one_of HT_.out (by kernel_rfl)) (by decide) (fun K hK => ?_)
            refine goes_ Try.func17 (by kernel_rfl) rfl #[.int .i64 t243, .int .i64 t239, .agg #[.int .u32 a2_0, .int .u32 a2_1, .int .u32 a2_2, .int .u32 a2_3]] (by rfl) rfl rfl (by (try simp only [List.map_toArray, List.map_cons, List.map_nil]); first | done | rfl | (simp only [List.length_drop, List.length_take]; rfl)) ?_
            with_reducible refine (signature_Challenge.calls kj9 t243 t239 a2_0 a2_1 a2_2 a2_3 t249 _ A25.out).mono ?_
            rintro e w36 ⟨rfl, hb⟩
            refine ⟨_, rfl, ?_⟩
            have n0_ := Aside0.mk (blk_below (g := gb235) (o := .cells #[.int .u32 a2_0, .int .u32 a2_1, .int .u32 a2_2, .int .u32 a2_3] 24 (0, 0)) (by (with_reducible repeat (first | refine blk_drewN ?_ _ | refine blk_drew ?_ | refine blk_alloc ?_ _)); exact BK235.out) hb)
            have n1_ := Aside0.mk (blk_below (g := gb236) (o := .cells #[.int .u32 a3_0, .int .u32 a3_1, .int .u32 a3_2, .int .u32 a3_3] 24 (0, 0)) (by (with_reducible repeat (first | refine blk_drewN ?_ _ | refine blk_drew ?_ | refine blk_alloc ?_ _)); exact BK236.out) hb)
            have n2_ := Aside0.mk (blk_below (g := gb246) (o := .cells #[.int .i64 t243, .int .i64 t244] 26 (0, 0)) (by (with_reducible repeat (first | refine blk_drewN ?_ _ | refine blk_drew ?_ | refine blk_alloc ?_ _)); exact BK246.out) hb)
            have n3_ := Aside0.mk (below_step (by repeat (first | (with_reducible first | exact HB.out | apply below_alloc | apply pw_below_drewN | apply below_drew1 | refine below_set ?_ GE235.out | refine below_set ?_ GE236.out | refine below_set ?_ GE246.out) | exact HB.out)) hb)
            clear BK235
            clear BK236
            clear BK246
            clear HB
            have BK235 := n0_
            have BK236 := n1_
            have BK246 := n2_
            have HB := n3_
            clear n0_ n1_ n2_ n3_
            (try clear hb)
            (try clear hb2)
            (try clear hk)
            (try clear hi)
            refine hK.out _ _ ⟨(blk_cell BK246.out 0).trans rfl, (blk_cell BK246.out 1).trans rfl, (blk_cell BK235.out 0).trans rfl, (blk_cell BK235.out 1).trans rfl, (blk_cell BK235.out 2).trans rfl, (blk_cell BK235.out 3).trans rfl⟩ (fun hHeld => ?_)
            clear hK K
            refine norm_ (a' := ?_) ?_ ?_
            rotate_left
            · show Act.put _ (some 66) _ = _
              simp only [Act.put, List.setIfInBounds_toArray, List.set_cons_zero, List.set_cons_succ, i64_w, i32_w]
              rfl
            refine pure_ (i := 6) (N := some 68) (v := ?_) (a' := ?_) #[true, true, true, true, true, true, true, true, true, true, true, false, true, false, false, false, false, false] rfl rfl (any_of HT_.out (by kernel_rfl)) (fun _ _ _ h => h) (Or.inl ⟨by rfl, ?_⟩) ?_ ?_
            rotate_left
            · intro w'
              go_simp
              with_reducible rfl
            rotate_left
            · simp only [Act.put, List.setIfInBounds_toArray, List.set_cons_zero, List.set_cons_succ, i64_w, i32_w]
              rfl
            refine one_ (i := 11) (N := some 73) #[true, true, true, true, true, true, true, true, true, true, true, true, true, false, false, false, false, false] rfl rfl (one_of HT_.out (by kernel_rfl)) (by decide) (fun K hK => ?_)
            refine goes_ Try.func17 (by kernel_rfl) rfl #[.int .i64 t243, .int .i64 t241, .agg #[.int .u32 a2_0, .int .u32 a2_1, .int .u32 a2_2, .int .u32 a2_3]] (by rfl) rfl rfl (by (try simp only [List.map_toArray, List.map_cons, List.map_nil]); first | done | rfl | (simp only [List.length_drop, List.length_take]; rfl)) ?_
            with_reducible refine (signature_Challenge.calls kj9 t243 t241 a2_0 a2_1 a2_2 a2_3 t250 _ A26.out).mono ?_
            rintro e w37 ⟨rfl, hb⟩
            refine ⟨_, rfl, ?_⟩
            have n0_ := Aside0.mk (blk_below (g := gb235) (o := .cells #[.int .u32 a2_0, .int .u32 a2_1, .int .u32 a2_2, .int .u32 a2_3] 24 (0, 0)) (by (with_reducible repeat (first | refine blk_drewN ?_ _ | refine blk_drew ?_ | refine blk_alloc ?_ _)); exact BK235.out) hb)
            have n1_ := Aside0.mk (blk_below (g := gb236) (o := .cells #[.int .u32 a3_0, .int .u32 a3_1, .int .u32 a3_2, .int .u32 a3_3] 24 (0, 0)) (by (with_reducible repeat (first | refine blk_drewN ?_ _ | refine blk_drew ?_ | refine blk_alloc ?_ _)); exact BK236.out) hb)
            have n2_ := Aside0.mk (blk_below (g := gb246) (o := .cells #[.int .i64 t243, .int .i64 t244] 26 (0, 0)) (by (with_reducible repeat (first | refine blk_drewN ?_ _ | refine blk_drew ?_ | refine blk_alloc ?_ _)); exact BK246.out) hb)
            have n3_ := Aside0.mk (below_step (by repeat (first | (with_reducible first | exact HB.out | apply below_alloc | apply pw_below_drewN | apply below_drew1 | refine below_set ?_ GE235.out | refine below_set ?_ GE236.out | refine below_set ?_ GE246.out) | exact HB.out)) hb)
            clear BK235
            clear BK236
            clear BK246
            clear HB
            have BK235 := n0_
            have BK236 := n1_
            have BK246 := n2_
            have HB := n3_
            clear n0_ n1_ n2_ n3_
            (try clear hb)
            (try clear hb2)
            (try clear hk)
            (try clear hi)
            refine hK.out _ _ ⟨(blk_cell BK246.out 0).trans rfl, (blk_cell BK246.out 1).trans rfl, (blk_cell BK235.out 0).trans rfl, (blk_cell BK235.out 1).trans rfl, (blk_cell BK235.out 2).trans rfl, (blk_cell BK235.out 3).trans rfl⟩ (fun hHeld => ?_)
            clear hK K
            refine norm_ (a' := ?_) ?_ ?_
            rotate_left
            · show Act.put _ (some 73) _ = _
              simp only [Act.put, List.setIfInBounds_toArray, List.set_cons_zero, List.set_cons_succ, i64_w, i32_w]
              rfl
            refine pure_ (i := 13) (N := some 75) (v := ?_) (a' := ?_) #[true, true, true, true, true, true, true, true, true, true, true, true, true, true, false, false, false, false] rfl rfl (any_of HT_.out (by kernel_rfl)) (fun _ _ _ h => h) (Or.inl ⟨by rfl, ?_⟩) ?_ ?_
            rotate_left
            · intro w'
              go_simp
              with_reducible rfl
            rotate_left
            · simp only [Act.put, List.setIfInBounds_toArray, List.set_cons_zero, List.set_cons_succ, i64_w, i32_w]
              rfl
            refine pure_ (i := 14) (N := some 76) (v := ?_) (a' := ?_) #[true, true, true, true, true, true, true, true, true, true, true, true, true, true, true, false, false, false] rfl rfl (any_of HT_.out (by kernel_rfl)) (fun _ _ _ h => h) (Or.inl ⟨by rfl, ?_⟩) ?_ ?_
            rotate_left
            · intro w'
              go_simp
              with_reducible rfl
            rotate_left
            · simp only [Act.put, List.setIfInBounds_toArray, List.set_cons_zero, List.set_cons_succ, i64_w, i32_w]
              rfl
            refine pure_ (i := 15) (N := some 77) (v := ?_) (a' := ?_) #[true, true, true, true, true, true, true, true, true, true, true, true, true, true, true, true, false, false] rfl rfl (any_of HT_.out (by kernel_rfl)) (fun _ _ _ h => h) (Or.inl ⟨by rfl, ?_⟩) ?_ ?_
            rotate_left
            · intro w'
              go_simp
              with_reducible rfl
            rotate_left
            · simp only [Act.put, List.setIfInBounds_toArray, List.set_cons_zero, List.set_cons_succ, i64_w, i32_w]
              rfl
            refine pure_ (i := 16) (N := some 78) (v := ?_) (a' := ?_) #[true, true, true, true, true, true, true, true, true, true, true, true, true, true, true, true, true, false] rfl rfl (any_of HT_.out (by kernel_rfl)) (fun _ _ _ h => h) (Or.inl ⟨by rfl, ?_⟩) ?_ ?_
            rotate_left
            · intro w'
              go_simp
              with_reducible rfl
            rotate_left
            · simp only [Act.put, List.setIfInBounds_toArray, List.set_cons_zero, List.set_cons_succ, i64_w, i32_w]
              rfl
            refine pure_ (i := 17) (N := some 18) (v := ?_) (a' := ?_) #[true, true, true, true, true, true, true, true, true, true, true, true, true, true, true, true, true, true] rfl rfl (any_of HT_.out (by kernel_rfl)) (fun _ _ _ h => h) (Or.inl ⟨by rfl, ?_⟩) ?_ ?_
            rotate_left
            · intro w'
              go_simp
              with_reducible rfl
            rotate_left
            · simp only [Act.put, List.setIfInBounds_toArray, List.set_cons_zero, List.set_cons_succ, i64_w, i32_w]
              rfl
            refine done_ (done_of HT_.out (by kernel_rfl)) ?_
            have hnb38 := NB236_235.out
            have hnc38 := NB235_236.out
            have hnb39 := NB236_246.out
            have hnc39 := NB246_236.out
            have hcz40_0 : w37.cell? ⟨gb236, 0, none⟩ = some (.int .u32 a3_0) := (blk_cell BK236.out 0).trans rfl
            have hcz40_1 : w37.cell? ⟨gb236, 1, none⟩ = some (.int .u32 a3_1) := (blk_cell BK236.out 1).trans rfl
            have hcz40_2 : w37.cell? ⟨gb236, 2, none⟩ = some (.int .u32 a3_2) := (blk_cell BK236.out 2).trans rfl
            have hcz40_3 : w37.cell? ⟨gb236, 3, none⟩ = some (.int .u32 a3_3) := (blk_cell BK236.out 3).trans rfl
            have hfz40_0 := blk_frozen BK236.out 0
            have hfz40_1 := blk_frozen BK236.out 1
            have hfz40_2 := blk_frozen BK236.out 2
            have hfz40_3 := blk_frozen BK236.out 3
            have hnb41 := NB246_235.out
            have hnc41 := NB235_246.out
            have hcz42_0 : w37.cell? ⟨gb246, 0, none⟩ = some (.int .i64 t243) := (blk_cell BK246.out 0).trans rfl
            have hcz42_1 : w37.cell? ⟨gb246, 1, none⟩ = some (.int .i64 t244) := (blk_cell BK246.out 1).trans rfl
            have hfz42_0 := blk_frozen BK246.out 0
            have hfz42_1 := blk_frozen BK246.out 1
            try go_wp2_with (first | ((with_reducible refine gate_callee (f := 19) rfl ?_); refine goesL_ (some 82) rfl rfl Try.func19 (by kernel_rfl) rfl #[.int .i64 t239, .agg #[.int .u32 a3_0, .int .u32 a3_1, .int .u32 a3_2, .int .u32 a3_3], .agg #[.int .i64 t243, .int .i64 t244]] rfl (by (try simp only [List.map_toArray, List.map_cons, List.map_nil]); first | done | rfl | (simp only [List.length_drop, List.length_take]; rfl)) ?_; (with_reducible refine (signature_Verify.calls kj9 t239 a3_0 a3_1 a3_2 a3_3 t243 t244 t251 _ A27.out).mono ?_); rintro e w43 ⟨rfl, hb⟩; refine ⟨_, rfl, ?_⟩; have n0_ := Aside0.mk (blk_below (g := gb235) (o := .cells #[.int .u32 a2_0, .int .u32 a2_1, .int .u32 a2_2, .int .u32 a2_3] 24 (0, 0)) (by (with_reducible repeat (first | refine blk_drewN ?_ _ | refine blk_drew ?_ | refine blk_alloc ?_ _)); exact BK235.out) hb); have n1_ := Aside0.mk (blk_below (g := gb236) (o := .cells #[.int .u32 a3_0, .int .u32 a3_1, .int .u32 a3_2, .int .u32 a3_3] 24 (0, 0)) (by (with_reducible repeat (first | refine blk_drewN ?_ _ | refine blk_drew ?_ | refine blk_alloc ?_ _)); exact BK236.out) hb); have n2_ := Aside0.mk (blk_below (g := gb246) (o := .cells #[.int .i64 t243, .int .i64 t244] 26 (0, 0)) (by (with_reducible repeat (first | refine blk_drewN ?_ _ | refine blk_drew ?_ | refine blk_alloc ?_ _)); exact BK246.out) hb); have n3_ := Aside0.mk (below_step (by repeat (first | (with_reducible first | exact HB.out | apply below_alloc | apply pw_below_drewN | apply below_drew1 | refine below_set ?_ GE235.out | refine below_set ?_ GE236.out | refine below_set ?_ GE246.out) | exact HB.out)) hb); clear BK235; clear BK236; clear BK246; clear HB; have BK235 := n0_; have BK236 := n1_; have BK246 := n2_; have HB := n3_; clear n0_ n1_ n2_ n3_; (try clear hb); (try clear hb2); (try clear hk); (try clear hi); have hcz44_0 : w43.cell? ⟨gb235, 0, none⟩ = some (.int .u32 a2_0) := (blk_cell BK235.out 0).trans rfl; have hcz44_1 : w43.cell? ⟨gb235, 1, none⟩ = some (.int .u32 a2_1) := (blk_cell BK235.out 1).trans rfl; have hcz44_2 : w43.cell? ⟨gb235, 2, none⟩ = some (.int .u32 a2_2) := (blk_cell BK235.out 2).trans rfl; have hcz44_3 : w43.cell? ⟨gb235, 3, none⟩ = some (.int .u32 a2_3) := (blk_cell BK235.out 3).trans rfl; have hfz44_0 := blk_frozen BK235.out 0; have hfz44_1 := blk_frozen BK235.out 1; have hfz44_2 := blk_frozen BK235.out 2; have hfz44_3 := blk_frozen BK235.out 3; have hcz45_0 : w43.cell? ⟨gb246, 0, none⟩ = some (.int .i64 t243) := (blk_cell BK246.out 0).trans rfl; have hcz45_1 : w43.cell? ⟨gb246, 1, none⟩ = some (.int .i64 t244) := (blk_cell BK246.out 1).trans rfl; have hfz45_0 := blk_frozen BK246.out 0; have hfz45_1 := blk_frozen BK246.out 1) | (go_at_call 19; (with_reducible refine (signature_Verify.calls kj9 t241 a2_0 a2_1 a2_2 a2_3 t243 t244 t252 _ A29.out).mono ?_); rintro e w46 ⟨rfl, hb⟩; have n0_ := Aside0.mk (blk_below (g := gb235) (o := .cells #[.int .u32 a2_0, .int .u32 a2_1, .int .u32 a2_2, .int .u32 a2_3] 24 (0, 0)) (by (with_reducible repeat (first | refine blk_drewN ?_ _ | refine blk_drew ?_ | refine blk_alloc ?_ _)); exact BK235.out) hb); have n1_ := Aside0.mk (blk_below (g := gb236) (o := .cells #[.int .u32 a3_0, .int .u32 a3_1, .int .u32 a3_2, .int .u32 a3_3] 24 (0, 0)) (by (with_reducible repeat (first | refine blk_drewN ?_ _ | refine blk_drew ?_ | refine blk_alloc ?_ _)); exact BK236.out) hb); have n2_ := Aside0.mk (blk_below (g := gb246) (o := .cells #[.int .i64 t243, .int .i64 t244] 26 (0, 0)) (by (with_reducible repeat (first | refine blk_drewN ?_ _ | refine blk_drew ?_ | refine blk_alloc ?_ _)); exact BK246.out) hb); have n3_ := Aside0.mk (below_step (by repeat (first | (with_reducible first | exact HB.out | apply below_alloc | apply pw_below_drewN | apply below_drew1 | refine below_set ?_ GE235.out | refine below_set ?_ GE236.out | refine below_set ?_ GE246.out) | exact HB.out)) hb); clear BK235; clear BK236; clear BK246; clear HB; have BK235 := n0_; have BK236 := n1_; have BK246 := n2_; have HB := n3_; clear n0_ n1_ n2_ n3_; (try clear hb); (try clear hb2); (try clear hk); (try clear hi)) | (go_at_call 21; (with_reducible refine (awardingbodylaw41_sane.calls kj9  t253 _ A31.out).mono ?_); rintro e w47 ⟨rfl, hb⟩; have n0_ := Aside0.mk (blk_below (g := gb235) (o := .cells #[.int .u32 a2_0, .int .u32 a2_1, .int .u32 a2_2, .int .u32 a2_3] 24 (0, 0)) (by (with_reducible repeat (first | refine blk_drewN ?_ _ | refine blk_drew ?_ | refine blk_alloc ?_ _)); exact BK235.out) hb); have n1_ := Aside0.mk (blk_below (g := gb236) (o := .cells #[.int .u32 a3_0, .int .u32 a3_1, .int .u32 a3_2, .int .u32 a3_3] 24 (0, 0)) (by (with_reducible repeat (first | refine blk_drewN ?_ _ | refine blk_drew ?_ | refine blk_alloc ?_ _)); exact BK236.out) hb); have n2_ := Aside0.mk (blk_below (g := gb246) (o := .cells #[.int .i64 t243, .int .i64 t244] 26 (0, 0)) (by (with_reducible repeat (first | refine blk_drewN ?_ _ | refine blk_drew ?_ | refine blk_alloc ?_ _)); exact BK246.out) hb); have n3_ := Aside0.mk (below_step (by repeat (first | (with_reducible first | exact HB.out | apply below_alloc | apply pw_below_drewN | apply below_drew1 | refine below_set ?_ GE235.out | refine below_set ?_ GE236.out | refine below_set ?_ GE246.out) | exact HB.out)) hb); clear BK235; clear BK236; clear BK246; clear HB; have BK235 := n0_; have BK236 := n1_; have BK246 := n2_; have HB := n3_; clear n0_ n1_ n2_ n3_; (try clear hb); (try clear hb2); (try clear hk); (try clear hi)))
            go_ret
            exact ⟨by first | rfl | (simp [errW_none, errW_some] <;> rfl) | (simp [*, errW_none, errW_some] <;> rfl), by repeat (first | (with_reducible first | exact HB.out | apply below_alloc | apply pw_below_drewN | apply below_drew1 | refine below_set ?_ GE235.out | refine below_set ?_ GE236.out | refine below_set ?_ GE246.out) | exact HB.out)⟩
          · rw [if_neg c30] at H
            have c30b0 : (t252 == ((Int.tmod (wrap64 ((wrap64 (t249 * (wrap64 (1 + t237)))) - (wrap64 (t250 * (wrap64 (1 + t238)))))) 1073741789) == 0)) = false := by simpa using c30
            (try (have c30b1 : decide (t252 = ((Int.tmod (wrap64 ((wrap64 (t249 * (wrap64 (1 + t237)))) - (wrap64 (t250 * (wrap64 (1 + t238)))))) 1073741789) == 0)) = false := by simpa using c30))
            (try (have c30b2 : (t252 == ((Int.tmod (wrap64 ((wrap64 (t249 * (wrap64 (1 + t237)))) - (wrap64 (t250 * (wrap64 (1 + t238)))))) 1073741789) == 0)) = false := by simpa using c30))
            (try (have c30b3 : ¬ (t252 = ((Int.tmod (wrap64 ((wrap64 (t249 * (wrap64 (1 + t237)))) - (wrap64 (t250 * (wrap64 (1 + t238)))))) 1073741789) == 0)) := by simpa using c30))
            clear c30
            obtain rfl := Option.some.inj H
            try go_wp2
            have n0_ := Aside0.mk (blk_drew BK235.out)
            have n1_ := Aside0.mk (blk_drew BK236.out)
            have n2_ := Aside0.mk (blk_drew BK246.out)
            have n3_ := Aside0.mk (below_drew1 HB.out)
            clear BK235
            clear BK236
            clear BK246
            clear HB
            have BK235 := n0_
            have BK236 := n1_
            have BK246 := n2_
            have HB := n3_
            clear n0_ n1_ n2_ n3_
            refine start_ (n := 12) (S := fun w' => w'.cell? ⟨gb246, 0, none⟩ = some (.int .i64 t243) ∧ w'.cell? ⟨gb246, 1, none⟩ = some (.int .i64 t244) ∧ w'.cell? ⟨gb235, 0, none⟩ = some (.int .u32 a2_0) ∧ w'.cell? ⟨gb235, 1, none⟩ = some (.int .u32 a2_1) ∧ w'.cell? ⟨gb235, 2, none⟩ = some (.int .u32 a2_2) ∧ w'.cell? ⟨gb235, 3, none⟩ = some (.int .u32 a2_3) ∧ w'.cell? ⟨gb236, 0, none⟩ = some (.int .u32 a3_0) ∧ w'.cell? ⟨gb236, 1, none⟩ = some (.int .u32 a3_1) ∧ w'.cell? ⟨gb236, 2, none⟩ = some (.int .u32 a3_2) ∧ w'.cell? ⟨gb236, 3, none⟩ = some (.int .u32 a3_3)) (ds := []) #[false, false, false, false, false, false, false, false, false, false, false, false] (by kernel_rfl) rfl rfl ⟨(blk_cell BK246.out 0).trans rfl, (blk_cell BK246.out 1).trans rfl, (blk_cell BK235.out 0).trans rfl, (blk_cell BK235.out 1).trans rfl, (blk_cell BK235.out 2).trans rfl, (blk_cell BK235.out 3).trans rfl, (blk_cell BK236.out 0).trans rfl, (blk_cell BK236.out 1).trans rfl, (blk_cell BK236.out 2).trans rfl, (blk_cell BK236.out 3).trans rfl⟩ (fun hHeld => ?_); refine with_tabW awardingbodylaw41_SignatureOther.tab7 awardingbodylaw41_SignatureOther.bits7 (fun HT_ HW_ => ?_)
            generalize wc.drew = w48 at BK235 BK236 BK246 HB hHeld ⊢
            refine pure_ (i := 0) (N := some 51) (v := ?_) (a' := ?_) #[true, false, false, false, false, false, false, false, false, false, false, false] rfl rfl (any_of HT_.out (by kernel_rfl)) (fun _ _ _ h => h) (Or.inl ⟨by rfl, ?_⟩) ?_ ?_
            rotate_left
            · intro w'
              go_simp
              with_reducible rfl
            rotate_left
            · simp only [Act.put, List.setIfInBounds_toArray, List.set_cons_zero, List.set_cons_succ, i64_w, i32_w]
              rfl
            refine pure_ (i := 2) (N := some 53) (v := ?_) (a' := ?_) #[true, false, true, false, false, false, false, false, false, false, false, false] rfl rfl (any_of HT_.out (by kernel_rfl)) (fun _ _ _ h => h) (Or.inl ⟨by rfl, ?_⟩) ?_ ?_
            rotate_left
            · intro w'
              go_simp
              with_reducible rfl
            rotate_left
            · simp only [Act.put, List.setIfInBounds_toArray, List.set_cons_zero, List.set_cons_succ, i64_w, i32_w]
              rfl
            refine pure_ (i := 5) (N := some 56) (v := ?_) (a' := ?_) #[true, false, true, false, false, true, false, false, false, false, false, false] rfl rfl (any_of HT_.out (by kernel_rfl)) (fun _ _ _ h => h) (Or.inl ⟨by rfl, ?_⟩) ?_ ?_
            rotate_left
            · intro w'
              go_simp
              with_reducible rfl
            rotate_left
            · simp only [Act.put, List.setIfInBounds_toArray, List.set_cons_zero, List.set_cons_succ, i64_w, i32_w]
              rfl
            refine pure_ (i := 7) (N := some 58) (v := ?_) (a' := ?_) #[true, false, true, false, false, true, false, true, false, false, false, false] rfl rfl (any_of HT_.out (by kernel_rfl)) (fun _ _ _ h => h) (Or.inl ⟨by rfl, ?_⟩) ?_ ?_
            rotate_left
            · intro w'
              go_simp
              with_reducible rfl
            rotate_left
            · simp only [Act.put, List.setIfInBounds_toArray, List.set_cons_zero, List.set_cons_succ, i64_w, i32_w]
              rfl
            refine take_ (i := 1) (N := some 52) (v := ?_) (a' := ?_) #[true, true, true, false, false, true, false, true, false, false, false, false] rfl rfl (take_ofW HT_.out HW_.out (by kernel_rfl)) (fun _ _ _ h => h) (Or.inl ⟨by rfl, ?_⟩) hHeld ?_ ?_
            rotate_left
            · rintro w' ⟨s0, s1, s2, s3, s4, s5, s6, s7, s8, s9⟩
              go_simp
              with_reducible rfl
            rotate_left
            · simp only [Act.put, List.setIfInBounds_toArray, List.set_cons_zero, List.set_cons_succ, i64_w, i32_w]
              rfl
            refine take_ (i := 3) (N := some 54) (v := ?_) (a' := ?_) #[true, true, true, true, false, true, false, true, false, false, false, false] rfl rfl (take_ofW HT_.out HW_.out (by kernel_rfl)) (fun _ _ _ h => h) (Or.inl ⟨by rfl, ?_⟩) hHeld ?_ ?_
            rotate_left
            · rintro w' ⟨s0, s1, s2, s3, s4, s5, s6, s7, s8, s9⟩
              go_simp
              with_reducible rfl
            rotate_left
            · simp only [Act.put, List.setIfInBounds_toArray, List.set_cons_zero, List.set_cons_succ, i64_w, i32_w]
              rfl
            refine take_ (i := 6) (N := some 57) (v := ?_) (a' := ?_) #[true, true, true, true, false, true, true, true, false, false, false, false] rfl rfl (take_ofW HT_.out HW_.out (by kernel_rfl)) (fun _ _ _ h => h) (Or.inl ⟨by rfl, ?_⟩) hHeld ?_ ?_
            rotate_left
            · rintro w' ⟨s0, s1, s2, s3, s4, s5, s6, s7, s8, s9⟩
              go_simp
              with_reducible rfl
            rotate_left
            · simp only [Act.put, List.setIfInBounds_toArray, List.set_cons_zero, List.set_cons_succ, i64_w, i32_w]
              rfl
            refine take_ (i := 8) (N := some 59) (v := ?_) (a' := ?_) #[true, true, true, true, false, true, true, true, true, false, false, false] rfl rfl (take_ofW HT_.out HW_.out (by kernel_rfl)) (fun _ _ _ h => h) (Or.inl ⟨by rfl, ?_⟩) hHeld ?_ ?_
            rotate_left
            · rintro w' ⟨s0, s1, s2, s3, s4, s5, s6, s7, s8, s9⟩
              go_simp
              with_reducible rfl
            rotate_left
            · simp only [Act.put, List.setIfInBounds_toArray, List.set_cons_zero, List.set_cons_succ, i64_w, i32_w]
              rfl
            refine one_ (i := 4) (N := some 55) #[true, true, true, true, true, true, true, true, true, false, false, false] rfl rfl (one_of HT_.out (by kernel_rfl)) (by decide) (fun K hK => ?_)
            refine goes_ Try.func17 (by kernel_rfl) rfl #[.int .i64 t243, .int .i64 t239, .agg #[.int .u32 a2_0, .int .u32 a2_1, .int .u32 a2_2, .int .u32 a2_3]] (by rfl) rfl rfl (by (try simp only [List.map_toArray, List.map_cons, List.map_nil]); first | done | rfl | (simp only [List.length_drop, List.length_take]; rfl)) ?_
            with_reducible refine (signature_Challenge.calls kj9 t243 t239 a2_0 a2_1 a2_2 a2_3 t247 _ A23.out).mono ?_
            rintro e w49 ⟨rfl, hb⟩
            refine ⟨_, rfl, ?_⟩
            have n0_ := Aside0.mk (blk_below (g := gb235) (o := .cells #[.int .u32 a2_0, .int .u32 a2_1, .int .u32 a2_2, .int .u32 a2_3] 24 (0, 0)) (by (with_reducible repeat (first | refine blk_drewN ?_ _ | refine blk_drew ?_ | refine blk_alloc ?_ _)); exact BK235.out) hb)
            have n1_ := Aside0.mk (blk_below (g := gb236) (o := .cells #[.int .u32 a3_0, .int .u32 a3_1, .int .u32 a3_2, .int .u32 a3_3] 24 (0, 0)) (by (with_reducible repeat (first | refine blk_drewN ?_ _ | refine blk_drew ?_ | refine blk_alloc ?_ _)); exact BK236.out) hb)
            have n2_ := Aside0.mk (blk_below (g := gb246) (o := .cells #[.int .i64 t243, .int .i64 t244] 26 (0, 0)) (by (with_reducible repeat (first | refine blk_drewN ?_ _ | refine blk_drew ?_ | refine blk_alloc ?_ _)); exact BK246.out) hb)
            have n3_ := Aside0.mk (below_step (by repeat (first | (with_reducible first | exact HB.out | apply below_alloc | apply pw_below_drewN | apply below_drew1 | refine below_set ?_ GE235.out | refine below_set ?_ GE236.out | refine below_set ?_ GE246.out) | exact HB.out)) hb)
            clear BK235
            clear BK236
            clear BK246
            clear HB
            have BK235 := n0_
            have BK236 := n1_
            have BK246 := n2_
            have HB := n3_
            clear n0_ n1_ n2_ n3_
            (try clear hb)
            (try clear hb2)
            (try clear hk)
            (try clear hi)
            refine hK.out _ _ ⟨(blk_cell BK246.out 0).trans rfl, (blk_cell BK246.out 1).trans rfl, (blk_cell BK235.out 0).trans rfl, (blk_cell BK235.out 1).trans rfl, (blk_cell BK235.out 2).trans rfl, (blk_cell BK235.out 3).trans rfl, (blk_cell BK236.out 0).trans rfl, (blk_cell BK236.out 1).trans rfl, (blk_cell BK236.out 2).trans rfl, (blk_cell BK236.out 3).trans rfl⟩ (fun hHeld => ?_)
            clear hK K
            refine norm_ (a' := ?_) ?_ ?_
            rotate_left
            · show Act.put _ (some 55) _ = _
              simp only [Act.put, List.setIfInBounds_toArray, List.set_cons_zero, List.set_cons_succ, i64_w, i32_w]
              rfl
            refine one_ (i := 9) (N := some 60) #[true, true, true, true, true, true, true, true, true, true, false, false] rfl rfl (one_of HT_.out (by kernel_rfl)) (by decide) (fun K hK => ?_)
            refine goes_ Try.func17 (by kernel_rfl) rfl #[.int .i64 t243, .int .i64 t239, .agg #[.int .u32 a3_0, .int .u32 a3_1, .int .u32 a3_2, .int .u32 a3_3]] (by rfl) rfl rfl (by (try simp only [List.map_toArray, List.map_cons, List.map_nil]); first | done | rfl | (simp only [List.length_drop, List.length_take]; rfl)) ?_
            with_reducible refine (signature_Challenge.calls kj9 t243 t239 a3_0 a3_1 a3_2 a3_3 t248 _ A24.out).mono ?_
            rintro e w50 ⟨rfl, hb⟩
            refine ⟨_, rfl, ?_⟩
            have n0_ := Aside0.mk (blk_below (g := gb235) (o := .cells #[.int .u32 a2_0, .int .u32 a2_1, .int .u32 a2_2, .int .u32 a2_3] 24 (0, 0)) (by (with_reducible repeat (first | refine blk_drewN ?_ _ | refine blk_drew ?_ | refine blk_alloc ?_ _)); exact BK235.out) hb)
            have n1_ := Aside0.mk (blk_below (g := gb236) (o := .cells #[.int .u32 a3_0, .int .u32 a3_1, .int .u32 a3_2, .int .u32 a3_3] 24 (0, 0)) (by (with_reducible repeat (first | refine blk_drewN ?_ _ | refine blk_drew ?_ | refine blk_alloc ?_ _)); exact BK236.out) hb)
            have n2_ := Aside0.mk (blk_below (g := gb246) (o := .cells #[.int .i64 t243, .int .i64 t244] 26 (0, 0)) (by (with_reducible repeat (first | refine blk_drewN ?_ _ | refine blk_drew ?_ | refine blk_alloc ?_ _)); exact BK246.out) hb)
            have n3_ := Aside0.mk (below_step (by repeat (first | (with_reducible first | exact HB.out | apply below_alloc | apply pw_below_drewN | apply below_drew1 | refine below_set ?_ GE235.out | refine below_set ?_ GE236.out | refine below_set ?_ GE246.out) | exact HB.out)) hb)
            clear BK235
            clear BK236
            clear BK246
            clear HB
            have BK235 := n0_
            have BK236 := n1_
            have BK246 := n2_
            have HB := n3_
            clear n0_ n1_ n2_ n3_
            (try clear hb)
            (try clear hb2)
            (try clear hk)
            (try clear hi)
            refine hK.out _ _ ⟨(blk_cell BK246.out 0).trans rfl, (blk_cell BK246.out 1).trans rfl, (blk_cell BK235.out 0).trans rfl, (blk_cell BK235.out 1).trans rfl, (blk_cell BK235.out 2).trans rfl, (blk_cell BK235.out 3).trans rfl, (blk_cell BK236.out 0).trans rfl, (blk_cell BK236.out 1).trans rfl, (blk_cell BK236.out 2).trans rfl, (blk_cell BK236.out 3).trans rfl⟩ (fun hHeld => ?_)
            clear hK K
            refine norm_ (a' := ?_) ?_ ?_
            rotate_left
            · show Act.put _ (some 60) _ = _
              simp only [Act.put, List.setIfInBounds_toArray, List.set_cons_zero, List.set_cons_succ, i64_w, i32_w]
              rfl
            refine pure_ (i := 10) (N := some 61) (v := ?_) (a' := ?_) #[true, true, true, true, true, true, true, true, true, true, true, false] rfl rfl (any_of HT_.out (by kernel_rfl)) (fun _ _ _ h => h) (Or.inl ⟨by rfl, ?_⟩) ?_ ?_
            rotate_left
            · intro w'
              go_simp
              with_reducible rfl
            rotate_left
            · simp only [Act.put, List.setIfInBounds_toArray, List.set_cons_zero, List.set_cons_succ, i64_w, i32_w]
              rfl
            refine pure_ (i := 11) (N := some 17) (v := ?_) (a' := ?_) #[true, true, true, true, true, true, true, true, true, true, true, true] rfl rfl (any_of HT_.out (by kernel_rfl)) (fun _ _ _ h => h) (Or.inl ⟨by rfl, ?_⟩) ?_ ?_
            rotate_left
            · intro w'
              go_simp
              with_reducible rfl
            rotate_left
            · simp only [Act.put, List.setIfInBounds_toArray, List.set_cons_zero, List.set_cons_succ, i64_w, i32_w]
              rfl
            refine done_ (done_of HT_.out (by kernel_rfl)) ?_
            try go_wp2
            have n0_ := Aside0.mk (blk_drew BK235.out)
            have n1_ := Aside0.mk (blk_drew BK236.out)
            have n2_ := Aside0.mk (blk_drew BK246.out)
            have n3_ := Aside0.mk (below_drew1 HB.out)
            clear BK235
            clear BK236
            clear BK246
            clear HB
            have BK235 := n0_
            have BK236 := n1_
            have BK246 := n2_
            have HB := n3_
            clear n0_ n1_ n2_ n3_
            refine start_ (n := 18) (S := fun w' => w'.cell? ⟨gb246, 0, none⟩ = some (.int .i64 t243) ∧ w'.cell? ⟨gb246, 1, none⟩ = some (.int .i64 t244) ∧ w'.cell? ⟨gb235, 0, none⟩ = some (.int .u32 a2_0) ∧ w'.cell? ⟨gb235, 1, none⟩ = some (.int .u32 a2_1) ∧ w'.cell? ⟨gb235, 2, none⟩ = some (.int .u32 a2_2) ∧ w'.cell? ⟨gb235, 3, none⟩ = some (.int .u32 a2_3)) (ds := []) #[false, false, false, false, false, false, false, false, false, false, false, false, false, false, false, false, false, false] (by kernel_rfl) rfl rfl ⟨(blk_cell BK246.out 0).trans rfl, (blk_cell BK246.out 1).trans rfl, (blk_cell BK235.out 0).trans rfl, (blk_cell BK235.out 1).trans rfl, (blk_cell BK235.out 2).trans rfl, (blk_cell BK235.out 3).trans rfl⟩ (fun hHeld => ?_); refine with_tabW awardingbodylaw41_SignatureOther.tab8 awardingbodylaw41_SignatureOther.bits8 (fun HT_ HW_ => ?_)
            generalize w50.drew = w51 at BK235 BK236 BK246 HB hHeld ⊢
            refine pure_ (i := 0) (N := some 62) (v := ?_) (a' := ?_) #[true, false, false, false, false, false, false, false, false, false, false, false, false, false, false, false, false, false] rfl rfl (any_of HT_.out (by kernel_rfl)) (fun _ _ _ h => h) (Or.inl ⟨by rfl, ?_⟩) ?_ ?_
            rotate_left
            · intro w'
              go_simp
              with_reducible rfl
            rotate_left
            · simp only [Act.put, List.setIfInBounds_toArray, List.set_cons_zero, List.set_cons_succ, i64_w, i32_w]
              rfl
            refine pure_ (i := 2) (N := some 64) (v := ?_) (a' := ?_) #[true, false, true, false, false, false, false, false, false, false, false, false, false, false, false, false, false, false] rfl rfl (any_of HT_.out (by kernel_rfl)) (fun _ _ _ h => h) (Or.inl ⟨by rfl, ?_⟩) ?_ ?_
            rotate_left
            · intro w'
              go_simp
              with_reducible rfl
            rotate_left
            · simp only [Act.put, List.setIfInBounds_toArray, List.set_cons_zero, List.set_cons_succ, i64_w, i32_w]
              rfl
            refine pure_ (i := 5) (N := some 67) (v := ?_) (a' := ?_) #[true, false, true, false, false, true, false, false, false, false, false, false, false, false, false, false, false, false] rfl rfl (any_of HT_.out (by kernel_rfl)) (fun _ _ _ h => h) (Or.inl ⟨by rfl, ?_⟩) ?_ ?_
            rotate_left
            · intro w'
              go_simp
              with_reducible rfl
            rotate_left
            · simp only [Act.put, List.setIfInBounds_toArray, List.set_cons_zero, List.set_cons_succ, i64_w, i32_w]
              rfl
            refine pure_ (i := 7) (N := some 69) (v := ?_) (a' := ?_) #[true, false, true, false, false, true, false, true, false, false, false, false, false, false, false, false, false, false] rfl rfl (any_of HT_.out (by kernel_rfl)) (fun _ _ _ h => h) (Or.inl ⟨by rfl, ?_⟩) ?_ ?_
            rotate_left
            · intro w'
              go_simp
              with_reducible rfl
            rotate_left
            · simp only [Act.put, List.setIfInBounds_toArray, List.set_cons_zero, List.set_cons_succ, i64_w, i32_w]
              rfl
            refine pure_ (i := 9) (N := some 71) (v := ?_) (a' := ?_) #[true, false, true, false, false, true, false, true, false, true, false, false, false, false, false, false, false, false] rfl rfl (any_of HT_.out (by kernel_rfl)) (fun _ _ _ h => h) (Or.inl ⟨by rfl, ?_⟩) ?_ ?_
            rotate_left
            · intro w'
              go_simp
              with_reducible rfl
            rotate_left
            · simp only [Act.put, List.setIfInBounds_toArray, List.set_cons_zero, List.set_cons_succ, i64_w, i32_w]
              rfl
            refine pure_ (i := 12) (N := some 74) (v := ?_) (a' := ?_) #[true, false, true, false, false, true, false, true, false, true, false, false, true, false, false, false, false, false] rfl rfl (any_of HT_.out (by kernel_rfl)) (fun _ _ _ h => h) (Or.inl ⟨by rfl, ?_⟩) ?_ ?_
            rotate_left
            · intro w'
              go_simp
              with_reducible rfl
            rotate_left
            · simp only [Act.put, List.setIfInBounds_toArray, List.set_cons_zero, List.set_cons_succ, i64_w, i32_w]
              rfl
            refine take_ (i := 1) (N := some 63) (v := ?_) (a' := ?_) #[true, true, true, false, false, true, false, true, false, true, false, false, true, false, false, false, false, false] rfl rfl (take_ofW HT_.out HW_.out (by kernel_rfl)) (fun _ _ _ h => h) (Or.inl ⟨by rfl, ?_⟩) hHeld ?_ ?_
            rotate_left
            · rintro w' ⟨s0, s1, s2, s3, s4, s5⟩
              go_simp
              with_reducible rfl
            rotate_left
            · simp only [Act.put, List.setIfInBounds_toArray, List.set_cons_zero, List.set_cons_succ, i64_w, i32_w]
              rfl
            refine take_ (i := 3) (N := some 65) (v := ?_) (a' := ?_) #[true, true, true, true, false, true, false, true, false, true, false, false, true, false, false, false, false, false] rfl rfl (take_ofW HT_.out HW_.out (by kernel_rfl)) (fun _ _ _ h => h) (Or.inl ⟨by rfl, ?_⟩) hHeld ?_ ?_
            rotate_left
            · rintro w' ⟨s0, s1, s2, s3, s4, s5⟩
              go_simp
              with_reducible rfl
            rotate_left
            · simp only [Act.put, List.setIfInBounds_toArray, List.set_cons_zero, List.set_cons_succ, i64_w, i32_w]
              rfl
            refine take_ (i := 8) (N := some 70) (v := ?_) (a' := ?_) #[true, true, true, true, false, true, false, true, true, true, false, false, true, false, false, false, false, false] rfl rfl (take_ofW HT_.out HW_.out (by kernel_rfl)) (fun _ _ _ h => h) (Or.inl ⟨by rfl, ?_⟩) hHeld ?_ ?_
            rotate_left
            · rintro w' ⟨s0, s1, s2, s3, s4, s5⟩
              go_simp
              with_reducible rfl
            rotate_left
            · simp only [Act.put, List.setIfInBounds_toArray, List.set_cons_zero, List.set_cons_succ, i64_w, i32_w]
              rfl
            refine take_ (i := 10) (N := some 72) (v := ?_) (a' := ?_) #[true, true, true, true, false, true, false, true, true, true, true, false, true, false, false, false, false, false] rfl rfl (take_ofW HT_.out HW_.out (by kernel_rfl)) (fun _ _ _ h => h) (Or.inl ⟨by rfl, ?_⟩) hHeld ?_ ?_
            rotate_left
            · rintro w' ⟨s0, s1, s2, s3, s4, s5⟩
              go_simp
              with_reducible rfl
            rotate_left
            · simp only [Act.put, List.setIfInBounds_toArray, List.set_cons_zero, List.set_cons_succ, i64_w, i32_w]
              rfl
            refine one_ (i := 4) (N := some 66) #[true, true, true, true, true, true, false, true, true, true, true, false, true, false, false, false, false, false] rfl rfl (one_of HT_.out (by kernel_rfl)) (by decide) (fun K hK => ?_)
            refine goes_ Try.func17 (by kernel_rfl) rfl #[.int .i64 t243, .int .i64 t239, .agg #[.int .u32 a2_0, .int .u32 a2_1, .int .u32 a2_2, .int .u32 a2_3]] (by rfl) rfl rfl (by (try simp only [List.map_toArray, List.map_cons, List.map_nil]); first | done | rfl | (simp only [List.length_drop, List.length_take]; rfl)) ?_
            with_reducible refine (signature_Challenge.calls kj9 t243 t239 a2_0 a2_1 a2_2 a2_3 t249 _ A25.out).mono ?_
            rintro e w52 ⟨rfl, hb⟩
            refine ⟨_, rfl, ?_⟩
            have n0_ := Aside0.mk (blk_below (g := gb235) (o := .cells #[.int .u32 a2_0, .int .u32 a2_1, .int .u32 a2_2, .int .u32 a2_3] 24 (0, 0)) (by (with_reducible repeat (first | refine blk_drewN ?_ _ | refine blk_drew ?_ | refine blk_alloc ?_ _)); exact BK235.out) hb)
            have n1_ := Aside0.mk (blk_below (g := gb236) (o := .cells #[.int .u32 a3_0, .int .u32 a3_1, .int .u32 a3_2, .int .u32 a3_3] 24 (0, 0)) (by (with_reducible repeat (first | refine blk_drewN ?_ _ | refine blk_drew ?_ | refine blk_alloc ?_ _)); exact BK236.out) hb)
            have n2_ := Aside0.mk (blk_below (g := gb246) (o := .cells #[.int .i64 t243, .int .i64 t244] 26 (0, 0)) (by (with_reducible repeat (first | refine blk_drewN ?_ _ | refine blk_drew ?_ | refine blk_alloc ?_ _)); exact BK246.out) hb)
            have n3_ := Aside0.mk (below_step (by repeat (first | (with_reducible first | exact HB.out | apply below_alloc | apply pw_below_drewN | apply below_drew1 | refine below_set ?_ GE235.out | refine below_set ?_ GE236.out | refine below_set ?_ GE246.out) | exact HB.out)) hb)
            clear BK235
            clear BK236
            clear BK246
            clear HB
            have BK235 := n0_
            have BK236 := n1_
            have BK246 := n2_
            have HB := n3_
            clear n0_ n1_ n2_ n3_
            (try clear hb)
            (try clear hb2)
            (try clear hk)
            (try clear hi)
            refine hK.out _ _ ⟨(blk_cell BK246.out 0).trans rfl, (blk_cell BK246.out 1).trans rfl, (blk_cell BK235.out 0).trans rfl, (blk_cell BK235.out 1).trans rfl, (blk_cell BK235.out 2).trans rfl, (blk_cell BK235.out 3).trans rfl⟩ (fun hHeld => ?_)
            clear hK K
            refine norm_ (a' := ?_) ?_ ?_
            rotate_left
            · show Act.put _ (some 66) _ = _
              simp only [Act.put, List.setIfInBounds_toArray, List.set_cons_zero, List.set_cons_succ, i64_w, i32_w]
              rfl
            refine pure_ (i := 6) (N := some 68) (v := ?_) (a' := ?_) #[true, true, true, true, true, true, true, true, true, true, true, false, true, false, false, false, false, false] rfl rfl (any_of HT_.out (by kernel_rfl)) (fun _ _ _ h => h) (Or.inl ⟨by rfl, ?_⟩) ?_ ?_
            rotate_left
            · intro w'
              go_simp
              with_reducible rfl
            rotate_left
            · simp only [Act.put, List.setIfInBounds_toArray, List.set_cons_zero, List.set_cons_succ, i64_w, i32_w]
              rfl
            refine one_ (i := 11) (N := some 73) #[true, true, true, true, true, true, true, true, true, true, true, true, true, false, false, false, false, false] rfl rfl (one_of HT_.out (by kernel_rfl)) (by decide) (fun K hK => ?_)
            refine goes_ Try.func17 (by kernel_rfl) rfl #[.int .i64 t243, .int .i64 t241, .agg #[.int .u32 a2_0, .int .u32 a2_1, .int .u32 a2_2, .int .u32 a2_3]] (by rfl) rfl rfl (by (try simp only [List.map_toArray, List.map_cons, List.map_nil]); first | done | rfl | (simp only [List.length_drop, List.length_take]; rfl)) ?_
            with_reducible refine (signature_Challenge.calls kj9 t243 t241 a2_0 a2_1 a2_2 a2_3 t250 _ A26.out).mono ?_
            rintro e w53 ⟨rfl, hb⟩
            refine ⟨_, rfl, ?_⟩
            have n0_ := Aside0.mk (blk_below (g := gb235) (o := .cells #[.int .u32 a2_0, .int .u32 a2_1, .int .u32 a2_2, .int .u32 a2_3] 24 (0, 0)) (by (with_reducible repeat (first | refine blk_drewN ?_ _ | refine blk_drew ?_ | refine blk_alloc ?_ _)); exact BK235.out) hb)
            have n1_ := Aside0.mk (blk_below (g := gb236) (o := .cells #[.int .u32 a3_0, .int .u32 a3_1, .int .u32 a3_2, .int .u32 a3_3] 24 (0, 0)) (by (with_reducible repeat (first | refine blk_drewN ?_ _ | refine blk_drew ?_ | refine blk_alloc ?_ _)); exact BK236.out) hb)
            have n2_ := Aside0.mk (blk_below (g := gb246) (o := .cells #[.int .i64 t243, .int .i64 t244] 26 (0, 0)) (by (with_reducible repeat (first | refine blk_drewN ?_ _ | refine blk_drew ?_ | refine blk_alloc ?_ _)); exact BK246.out) hb)
            have n3_ := Aside0.mk (below_step (by repeat (first | (with_reducible first | exact HB.out | apply below_alloc | apply pw_below_drewN | apply below_drew1 | refine below_set ?_ GE235.out | refine below_set ?_ GE236.out | refine below_set ?_ GE246.out) | exact HB.out)) hb)
            clear BK235
            clear BK236
            clear BK246
            clear HB
            have BK235 := n0_
            have BK236 := n1_
            have BK246 := n2_
            have HB := n3_
            clear n0_ n1_ n2_ n3_
            (try clear hb)
            (try clear hb2)
            (try clear hk)
            (try clear hi)
            refine hK.out _ _ ⟨(blk_cell BK246.out 0).trans rfl, (blk_cell BK246.out 1).trans rfl, (blk_cell BK235.out 0).trans rfl, (blk_cell BK235.out 1).trans rfl, (blk_cell BK235.out 2).trans rfl, (blk_cell BK235.out 3).trans rfl⟩ (fun hHeld => ?_)
            clear hK K
            refine norm_ (a' := ?_) ?_ ?_
            rotate_left
            · show Act.put _ (some 73) _ = _
              simp only [Act.put, List.setIfInBounds_toArray, List.set_cons_zero, List.set_cons_succ, i64_w, i32_w]
              rfl
            refine pure_ (i := 13) (N := some 75) (v := ?_) (a' := ?_) #[true, true, true, true, true, true, true, true, true, true, true, true, true, true, false, false, false, false] rfl rfl (any_of HT_.out (by kernel_rfl)) (fun _ _ _ h => h) (Or.inl ⟨by rfl, ?_⟩) ?_ ?_
            rotate_left
            · intro w'
              go_simp
              with_reducible rfl
            rotate_left
            · simp only [Act.put, List.setIfInBounds_toArray, List.set_cons_zero, List.set_cons_succ, i64_w, i32_w]
              rfl
            refine pure_ (i := 14) (N := some 76) (v := ?_) (a' := ?_) #[true, true, true, true, true, true, true, true, true, true, true, true, true, true, true, false, false, false] rfl rfl (any_of HT_.out (by kernel_rfl)) (fun _ _ _ h => h) (Or.inl ⟨by rfl, ?_⟩) ?_ ?_
            rotate_left
            · intro w'
              go_simp
              with_reducible rfl
            rotate_left
            · simp only [Act.put, List.setIfInBounds_toArray, List.set_cons_zero, List.set_cons_succ, i64_w, i32_w]
              rfl
            refine pure_ (i := 15) (N := some 77) (v := ?_) (a' := ?_) #[true, true, true, true, true, true, true, true, true, true, true, true, true, true, true, true, false, false] rfl rfl (any_of HT_.out (by kernel_rfl)) (fun _ _ _ h => h) (Or.inl ⟨by rfl, ?_⟩) ?_ ?_
            rotate_left
            · intro w'
              go_simp
              with_reducible rfl
            rotate_left
            · simp only [Act.put, List.setIfInBounds_toArray, List.set_cons_zero, List.set_cons_succ, i64_w, i32_w]
              rfl
            refine pure_ (i := 16) (N := some 78) (v := ?_) (a' := ?_) #[true, true, true, true, true, true, true, true, true, true, true, true, true, true, true, true, true, false] rfl rfl (any_of HT_.out (by kernel_rfl)) (fun _ _ _ h => h) (Or.inl ⟨by rfl, ?_⟩) ?_ ?_
            rotate_left
            · intro w'
              go_simp
              with_reducible rfl
            rotate_left
            · simp only [Act.put, List.setIfInBounds_toArray, List.set_cons_zero, List.set_cons_succ, i64_w, i32_w]
              rfl
            refine pure_ (i := 17) (N := some 18) (v := ?_) (a' := ?_) #[true, true, true, true, true, true, true, true, true, true, true, true, true, true, true, true, true, true] rfl rfl (any_of HT_.out (by kernel_rfl)) (fun _ _ _ h => h) (Or.inl ⟨by rfl, ?_⟩) ?_ ?_
            rotate_left
            · intro w'
              go_simp
              with_reducible rfl
            rotate_left
            · simp only [Act.put, List.setIfInBounds_toArray, List.set_cons_zero, List.set_cons_succ, i64_w, i32_w]
              rfl
            refine done_ (done_of HT_.out (by kernel_rfl)) ?_
            have hnb54 := NB236_235.out
            have hnc54 := NB235_236.out
            have hnb55 := NB236_246.out
            have hnc55 := NB246_236.out
            have hcz56_0 : w53.cell? ⟨gb236, 0, none⟩ = some (.int .u32 a3_0) := (blk_cell BK236.out 0).trans rfl
            have hcz56_1 : w53.cell? ⟨gb236, 1, none⟩ = some (.int .u32 a3_1) := (blk_cell BK236.out 1).trans rfl
            have hcz56_2 : w53.cell? ⟨gb236, 2, none⟩ = some (.int .u32 a3_2) := (blk_cell BK236.out 2).trans rfl
            have hcz56_3 : w53.cell? ⟨gb236, 3, none⟩ = some (.int .u32 a3_3) := (blk_cell BK236.out 3).trans rfl
            have hfz56_0 := blk_frozen BK236.out 0
            have hfz56_1 := blk_frozen BK236.out 1
            have hfz56_2 := blk_frozen BK236.out 2
            have hfz56_3 := blk_frozen BK236.out 3
            have hnb57 := NB246_235.out
            have hnc57 := NB235_246.out
            have hcz58_0 : w53.cell? ⟨gb246, 0, none⟩ = some (.int .i64 t243) := (blk_cell BK246.out 0).trans rfl
            have hcz58_1 : w53.cell? ⟨gb246, 1, none⟩ = some (.int .i64 t244) := (blk_cell BK246.out 1).trans rfl
            have hfz58_0 := blk_frozen BK246.out 0
            have hfz58_1 := blk_frozen BK246.out 1
            try go_wp2_with (first | ((with_reducible refine gate_callee (f := 19) rfl ?_); refine goesL_ (some 82) rfl rfl Try.func19 (by kernel_rfl) rfl #[.int .i64 t239, .agg #[.int .u32 a3_0, .int .u32 a3_1, .int .u32 a3_2, .int .u32 a3_3], .agg #[.int .i64 t243, .int .i64 t244]] rfl (by (try simp only [List.map_toArray, List.map_cons, List.map_nil]); first | done | rfl | (simp only [List.length_drop, List.length_take]; rfl)) ?_; (with_reducible refine (signature_Verify.calls kj9 t239 a3_0 a3_1 a3_2 a3_3 t243 t244 t251 _ A27.out).mono ?_); rintro e w59 ⟨rfl, hb⟩; refine ⟨_, rfl, ?_⟩; have n0_ := Aside0.mk (blk_below (g := gb235) (o := .cells #[.int .u32 a2_0, .int .u32 a2_1, .int .u32 a2_2, .int .u32 a2_3] 24 (0, 0)) (by (with_reducible repeat (first | refine blk_drewN ?_ _ | refine blk_drew ?_ | refine blk_alloc ?_ _)); exact BK235.out) hb); have n1_ := Aside0.mk (blk_below (g := gb236) (o := .cells #[.int .u32 a3_0, .int .u32 a3_1, .int .u32 a3_2, .int .u32 a3_3] 24 (0, 0)) (by (with_reducible repeat (first | refine blk_drewN ?_ _ | refine blk_drew ?_ | refine blk_alloc ?_ _)); exact BK236.out) hb); have n2_ := Aside0.mk (blk_below (g := gb246) (o := .cells #[.int .i64 t243, .int .i64 t244] 26 (0, 0)) (by (with_reducible repeat (first | refine blk_drewN ?_ _ | refine blk_drew ?_ | refine blk_alloc ?_ _)); exact BK246.out) hb); have n3_ := Aside0.mk (below_step (by repeat (first | (with_reducible first | exact HB.out | apply below_alloc | apply pw_below_drewN | apply below_drew1 | refine below_set ?_ GE235.out | refine below_set ?_ GE236.out | refine below_set ?_ GE246.out) | exact HB.out)) hb); clear BK235; clear BK236; clear BK246; clear HB; have BK235 := n0_; have BK236 := n1_; have BK246 := n2_; have HB := n3_; clear n0_ n1_ n2_ n3_; (try clear hb); (try clear hb2); (try clear hk); (try clear hi); have hcz60_0 : w59.cell? ⟨gb235, 0, none⟩ = some (.int .u32 a2_0) := (blk_cell BK235.out 0).trans rfl; have hcz60_1 : w59.cell? ⟨gb235, 1, none⟩ = some (.int .u32 a2_1) := (blk_cell BK235.out 1).trans rfl; have hcz60_2 : w59.cell? ⟨gb235, 2, none⟩ = some (.int .u32 a2_2) := (blk_cell BK235.out 2).trans rfl; have hcz60_3 : w59.cell? ⟨gb235, 3, none⟩ = some (.int .u32 a2_3) := (blk_cell BK235.out 3).trans rfl; have hfz60_0 := blk_frozen BK235.out 0; have hfz60_1 := blk_frozen BK235.out 1; have hfz60_2 := blk_frozen BK235.out 2; have hfz60_3 := blk_frozen BK235.out 3; have hcz61_0 : w59.cell? ⟨gb246, 0, none⟩ = some (.int .i64 t243) := (blk_cell BK246.out 0).trans rfl; have hcz61_1 : w59.cell? ⟨gb246, 1, none⟩ = some (.int .i64 t244) := (blk_cell BK246.out 1).trans rfl; have hfz61_0 := blk_frozen BK246.out 0; have hfz61_1 := blk_frozen BK246.out 1) | (go_at_call 19; (with_reducible refine (signature_Verify.calls kj9 t241 a2_0 a2_1 a2_2 a2_3 t243 t244 t252 _ A29.out).mono ?_); rintro e w62 ⟨rfl, hb⟩; have n0_ := Aside0.mk (blk_below (g := gb235) (o := .cells #[.int .u32 a2_0, .int .u32 a2_1, .int .u32 a2_2, .int .u32 a2_3] 24 (0, 0)) (by (with_reducible repeat (first | refine blk_drewN ?_ _ | refine blk_drew ?_ | refine blk_alloc ?_ _)); exact BK235.out) hb); have n1_ := Aside0.mk (blk_below (g := gb236) (o := .cells #[.int .u32 a3_0, .int .u32 a3_1, .int .u32 a3_2, .int .u32 a3_3] 24 (0, 0)) (by (with_reducible repeat (first | refine blk_drewN ?_ _ | refine blk_drew ?_ | refine blk_alloc ?_ _)); exact BK236.out) hb); have n2_ := Aside0.mk (blk_below (g := gb246) (o := .cells #[.int .i64 t243, .int .i64 t244] 26 (0, 0)) (by (with_reducible repeat (first | refine blk_drewN ?_ _ | refine blk_drew ?_ | refine blk_alloc ?_ _)); exact BK246.out) hb); have n3_ := Aside0.mk (below_step (by repeat (first | (with_reducible first | exact HB.out | apply below_alloc | apply pw_below_drewN | apply below_drew1 | refine below_set ?_ GE235.out | refine below_set ?_ GE236.out | refine below_set ?_ GE246.out) | exact HB.out)) hb); clear BK235; clear BK236; clear BK246; clear HB; have BK235 := n0_; have BK236 := n1_; have BK246 := n2_; have HB := n3_; clear n0_ n1_ n2_ n3_; (try clear hb); (try clear hb2); (try clear hk); (try clear hi)))
            go_ret
            exact ⟨by first | rfl | (simp [errW_none, errW_some] <;> rfl) | (simp [*, errW_none, errW_some] <;> rfl), by repeat (first | (with_reducible first | exact HB.out | apply below_alloc | apply pw_below_drewN | apply below_drew1 | refine below_set ?_ GE235.out | refine below_set ?_ GE236.out | refine below_set ?_ GE246.out) | exact HB.out)⟩
        · rw [if_neg c28] at H
          have c28b0 : (t251 == (t247 == t248)) = false := by simpa using c28
          (try (have c28b1 : decide (t251 = (t247 == t248)) = false := by simpa using c28))
          (try (have c28b2 : (t251 == (t247 == t248)) = false := by simpa using c28))
          (try (have c28b3 : ¬ (t251 = (t247 == t248)) := by simpa using c28))
          clear c28
          obtain rfl := Option.some.inj H
          try go_wp2
          have n0_ := Aside0.mk (blk_drew BK235.out)
          have n1_ := Aside0.mk (blk_drew BK236.out)
          have n2_ := Aside0.mk (blk_drew BK246.out)
          have n3_ := Aside0.mk (below_drew1 HB.out)
          clear BK235
          clear BK236
          clear BK246
          clear HB
          have BK235 := n0_
          have BK236 := n1_
          have BK246 := n2_
          have HB := n3_
          clear n0_ n1_ n2_ n3_
          refine start_ (n := 12) (S := fun w' => w'.cell? ⟨gb246, 0, none⟩ = some (.int .i64 t243) ∧ w'.cell? ⟨gb246, 1, none⟩ = some (.int .i64 t244) ∧ w'.cell? ⟨gb235, 0, none⟩ = some (.int .u32 a2_0) ∧ w'.cell? ⟨gb235, 1, none⟩ = some (.int .u32 a2_1) ∧ w'.cell? ⟨gb235, 2, none⟩ = some (.int .u32 a2_2) ∧ w'.cell? ⟨gb235, 3, none⟩ = some (.int .u32 a2_3) ∧ w'.cell? ⟨gb236, 0, none⟩ = some (.int .u32 a3_0) ∧ w'.cell? ⟨gb236, 1, none⟩ = some (.int .u32 a3_1) ∧ w'.cell? ⟨gb236, 2, none⟩ = some (.int .u32 a3_2) ∧ w'.cell? ⟨gb236, 3, none⟩ = some (.int .u32 a3_3)) (ds := []) #[false, false, false, false, false, false, false, false, false, false, false, false] (by kernel_rfl) rfl rfl ⟨(blk_cell BK246.out 0).trans rfl, (blk_cell BK246.out 1).trans rfl, (blk_cell BK235.out 0).trans rfl, (blk_cell BK235.out 1).trans rfl, (blk_cell BK235.out 2).trans rfl, (blk_cell BK235.out 3).trans rfl, (blk_cell BK236.out 0).trans rfl, (blk_cell BK236.out 1).trans rfl, (blk_cell BK236.out 2).trans rfl, (blk_cell BK236.out 3).trans rfl⟩ (fun hHeld => ?_); refine with_tabW awardingbodylaw41_SignatureOther.tab7 awardingbodylaw41_SignatureOther.bits7 (fun HT_ HW_ => ?_)
          generalize wc.drew = w63 at BK235 BK236 BK246 HB hHeld ⊢
          refine pure_ (i := 0) (N := some 51) (v := ?_) (a' := ?_) #[true, false, false, false, false, false, false, false, false, false, false, false] rfl rfl (any_of HT_.out (by kernel_rfl)) (fun _ _ _ h => h) (Or.inl ⟨by rfl, ?_⟩) ?_ ?_
          rotate_left
          · intro w'
            go_simp
            with_reducible rfl
          rotate_left
          · simp only [Act.put, List.setIfInBounds_toArray, List.set_cons_zero, List.set_cons_succ, i64_w, i32_w]
            rfl
          refine pure_ (i := 2) (N := some 53) (v := ?_) (a' := ?_) #[true, false, true, false, false, false, false, false, false, false, false, false] rfl rfl (any_of HT_.out (by kernel_rfl)) (fun _ _ _ h => h) (Or.inl ⟨by rfl, ?_⟩) ?_ ?_
          rotate_left
          · intro w'
            go_simp
            with_reducible rfl
          rotate_left
          · simp only [Act.put, List.setIfInBounds_toArray, List.set_cons_zero, List.set_cons_succ, i64_w, i32_w]
            rfl
          refine pure_ (i := 5) (N := some 56) (v := ?_) (a' := ?_) #[true, false, true, false, false, true, false, false, false, false, false, false] rfl rfl (any_of HT_.out (by kernel_rfl)) (fun _ _ _ h => h) (Or.inl ⟨by rfl, ?_⟩) ?_ ?_
          rotate_left
          · intro w'
            go_simp
            with_reducible rfl
          rotate_left
          · simp only [Act.put, List.setIfInBounds_toArray, List.set_cons_zero, List.set_cons_succ, i64_w, i32_w]
            rfl
          refine pure_ (i := 7) (N := some 58) (v := ?_) (a' := ?_) #[true, false, true, false, false, true, false, true, false, false, false, false] rfl rfl (any_of HT_.out (by kernel_rfl)) (fun _ _ _ h => h) (Or.inl ⟨by rfl, ?_⟩) ?_ ?_
          rotate_left
          · intro w'
            go_simp
            with_reducible rfl
          rotate_left
          · simp only [Act.put, List.setIfInBounds_toArray, List.set_cons_zero, List.set_cons_succ, i64_w, i32_w]
            rfl
          refine take_ (i := 1) (N := some 52) (v := ?_) (a' := ?_) #[true, true, true, false, false, true, false, true, false, false, false, false] rfl rfl (take_ofW HT_.out HW_.out (by kernel_rfl)) (fun _ _ _ h => h) (Or.inl ⟨by rfl, ?_⟩) hHeld ?_ ?_
          rotate_left
          · rintro w' ⟨s0, s1, s2, s3, s4, s5, s6, s7, s8, s9⟩
            go_simp
            with_reducible rfl
          rotate_left
          · simp only [Act.put, List.setIfInBounds_toArray, List.set_cons_zero, List.set_cons_succ, i64_w, i32_w]
            rfl
          refine take_ (i := 3) (N := some 54) (v := ?_) (a' := ?_) #[true, true, true, true, false, true, false, true, false, false, false, false] rfl rfl (take_ofW HT_.out HW_.out (by kernel_rfl)) (fun _ _ _ h => h) (Or.inl ⟨by rfl, ?_⟩) hHeld ?_ ?_
          rotate_left
          · rintro w' ⟨s0, s1, s2, s3, s4, s5, s6, s7, s8, s9⟩
            go_simp
            with_reducible rfl
          rotate_left
          · simp only [Act.put, List.setIfInBounds_toArray, List.set_cons_zero, List.set_cons_succ, i64_w, i32_w]
            rfl
          refine take_ (i := 6) (N := some 57) (v := ?_) (a' := ?_) #[true, true, true, true, false, true, true, true, false, false, false, false] rfl rfl (take_ofW HT_.out HW_.out (by kernel_rfl)) (fun _ _ _ h => h) (Or.inl ⟨by rfl, ?_⟩) hHeld ?_ ?_
          rotate_left
          · rintro w' ⟨s0, s1, s2, s3, s4, s5, s6, s7, s8, s9⟩
            go_simp
            with_reducible rfl
          rotate_left
          · simp only [Act.put, List.setIfInBounds_toArray, List.set_cons_zero, List.set_cons_succ, i64_w, i32_w]
            rfl
          refine take_ (i := 8) (N := some 59) (v := ?_) (a' := ?_) #[true, true, true, true, false, true, true, true, true, false, false, false] rfl rfl (take_ofW HT_.out HW_.out (by kernel_rfl)) (fun _ _ _ h => h) (Or.inl ⟨by rfl, ?_⟩) hHeld ?_ ?_
          rotate_left
          · rintro w' ⟨s0, s1, s2, s3, s4, s5, s6, s7, s8, s9⟩
            go_simp
            with_reducible rfl
          rotate_left
          · simp only [Act.put, List.setIfInBounds_toArray, List.set_cons_zero, List.set_cons_succ, i64_w, i32_w]
            rfl
          refine one_ (i := 4) (N := some 55) #[true, true, true, true, true, true, true, true, true, false, false, false] rfl rfl (one_of HT_.out (by kernel_rfl)) (by decide) (fun K hK => ?_)
          refine goes_ Try.func17 (by kernel_rfl) rfl #[.int .i64 t243, .int .i64 t239, .agg #[.int .u32 a2_0, .int .u32 a2_1, .int .u32 a2_2, .int .u32 a2_3]] (by rfl) rfl rfl (by (try simp only [List.map_toArray, List.map_cons, List.map_nil]); first | done | rfl | (simp only [List.length_drop, List.length_take]; rfl)) ?_
          with_reducible refine (signature_Challenge.calls kj9 t243 t239 a2_0 a2_1 a2_2 a2_3 t247 _ A23.out).mono ?_
          rintro e w64 ⟨rfl, hb⟩
          refine ⟨_, rfl, ?_⟩
          have n0_ := Aside0.mk (blk_below (g := gb235) (o := .cells #[.int .u32 a2_0, .int .u32 a2_1, .int .u32 a2_2, .int .u32 a2_3] 24 (0, 0)) (by (with_reducible repeat (first | refine blk_drewN ?_ _ | refine blk_drew ?_ | refine blk_alloc ?_ _)); exact BK235.out) hb)
          have n1_ := Aside0.mk (blk_below (g := gb236) (o := .cells #[.int .u32 a3_0, .int .u32 a3_1, .int .u32 a3_2, .int .u32 a3_3] 24 (0, 0)) (by (with_reducible repeat (first | refine blk_drewN ?_ _ | refine blk_drew ?_ | refine blk_alloc ?_ _)); exact BK236.out) hb)
          have n2_ := Aside0.mk (blk_below (g := gb246) (o := .cells #[.int .i64 t243, .int .i64 t244] 26 (0, 0)) (by (with_reducible repeat (first | refine blk_drewN ?_ _ | refine blk_drew ?_ | refine blk_alloc ?_ _)); exact BK246.out) hb)
          have n3_ := Aside0.mk (below_step (by repeat (first | (with_reducible first | exact HB.out | apply below_alloc | apply pw_below_drewN | apply below_drew1 | refine below_set ?_ GE235.out | refine below_set ?_ GE236.out | refine below_set ?_ GE246.out) | exact HB.out)) hb)
          clear BK235
          clear BK236
          clear BK246
          clear HB
          have BK235 := n0_
          have BK236 := n1_
          have BK246 := n2_
          have HB := n3_
          clear n0_ n1_ n2_ n3_
          (try clear hb)
          (try clear hb2)
          (try clear hk)
          (try clear hi)
          refine hK.out _ _ ⟨(blk_cell BK246.out 0).trans rfl, (blk_cell BK246.out 1).trans rfl, (blk_cell BK235.out 0).trans rfl, (blk_cell BK235.out 1).trans rfl, (blk_cell BK235.out 2).trans rfl, (blk_cell BK235.out 3).trans rfl, (blk_cell BK236.out 0).trans rfl, (blk_cell BK236.out 1).trans rfl, (blk_cell BK236.out 2).trans rfl, (blk_cell BK236.out 3).trans rfl⟩ (fun hHeld => ?_)
          clear hK K
          refine norm_ (a' := ?_) ?_ ?_
          rotate_left
          · show Act.put _ (some 55) _ = _
            simp only [Act.put, List.setIfInBounds_toArray, List.set_cons_zero, List.set_cons_succ, i64_w, i32_w]
            rfl
          refine one_ (i := 9) (N := some 60) #[true, true, true, true, true, true, true, true, true, true, false, false] rfl rfl (one_of HT_.out (by kernel_rfl)) (by decide) (fun K hK => ?_)
          refine goes_ Try.func17 (by kernel_rfl) rfl #[.int .i64 t243, .int .i64 t239, .agg #[.int .u32 a3_0, .int .u32 a3_1, .int .u32 a3_2, .int .u32 a3_3]] (by rfl) rfl rfl (by (try simp only [List.map_toArray, List.map_cons, List.map_nil]); first | done | rfl | (simp only [List.length_drop, List.length_take]; rfl)) ?_
          with_reducible refine (signature_Challenge.calls kj9 t243 t239 a3_0 a3_1 a3_2 a3_3 t248 _ A24.out).mono ?_
          rintro e w65 ⟨rfl, hb⟩
          refine ⟨_, rfl, ?_⟩
          have n0_ := Aside0.mk (blk_below (g := gb235) (o := .cells #[.int .u32 a2_0, .int .u32 a2_1, .int .u32 a2_2, .int .u32 a2_3] 24 (0, 0)) (by (with_reducible repeat (first | refine blk_drewN ?_ _ | refine blk_drew ?_ | refine blk_alloc ?_ _)); exact BK235.out) hb)
          have n1_ := Aside0.mk (blk_below (g := gb236) (o := .cells #[.int .u32 a3_0, .int .u32 a3_1, .int .u32 a3_2, .int .u32 a3_3] 24 (0, 0)) (by (with_reducible repeat (first | refine blk_drewN ?_ _ | refine blk_drew ?_ | refine blk_alloc ?_ _)); exact BK236.out) hb)
          have n2_ := Aside0.mk (blk_below (g := gb246) (o := .cells #[.int .i64 t243, .int .i64 t244] 26 (0, 0)) (by (with_reducible repeat (first | refine blk_drewN ?_ _ | refine blk_drew ?_ | refine blk_alloc ?_ _)); exact BK246.out) hb)
          have n3_ := Aside0.mk (below_step (by repeat (first | (with_reducible first | exact HB.out | apply below_alloc | apply pw_below_drewN | apply below_drew1 | refine below_set ?_ GE235.out | refine below_set ?_ GE236.out | refine below_set ?_ GE246.out) | exact HB.out)) hb)
          clear BK235
          clear BK236
          clear BK246
          clear HB
          have BK235 := n0_
          have BK236 := n1_
          have BK246 := n2_
          have HB := n3_
          clear n0_ n1_ n2_ n3_
          (try clear hb)
          (try clear hb2)
          (try clear hk)
          (try clear hi)
          refine hK.out _ _ ⟨(blk_cell BK246.out 0).trans rfl, (blk_cell BK246.out 1).trans rfl, (blk_cell BK235.out 0).trans rfl, (blk_cell BK235.out 1).trans rfl, (blk_cell BK235.out 2).trans rfl, (blk_cell BK235.out 3).trans rfl, (blk_cell BK236.out 0).trans rfl, (blk_cell BK236.out 1).trans rfl, (blk_cell BK236.out 2).trans rfl, (blk_cell BK236.out 3).trans rfl⟩ (fun hHeld => ?_)
          clear hK K
          refine norm_ (a' := ?_) ?_ ?_
          rotate_left
          · show Act.put _ (some 60) _ = _
            simp only [Act.put, List.setIfInBounds_toArray, List.set_cons_zero, List.set_cons_succ, i64_w, i32_w]
            rfl
          refine pure_ (i := 10) (N := some 61) (v := ?_) (a' := ?_) #[true, true, true, true, true, true, true, true, true, true, true, false] rfl rfl (any_of HT_.out (by kernel_rfl)) (fun _ _ _ h => h) (Or.inl ⟨by rfl, ?_⟩) ?_ ?_
          rotate_left
          · intro w'
            go_simp
            with_reducible rfl
          rotate_left
          · simp only [Act.put, List.setIfInBounds_toArray, List.set_cons_zero, List.set_cons_succ, i64_w, i32_w]
            rfl
          refine pure_ (i := 11) (N := some 17) (v := ?_) (a' := ?_) #[true, true, true, true, true, true, true, true, true, true, true, true] rfl rfl (any_of HT_.out (by kernel_rfl)) (fun _ _ _ h => h) (Or.inl ⟨by rfl, ?_⟩) ?_ ?_
          rotate_left
          · intro w'
            go_simp
            with_reducible rfl
          rotate_left
          · simp only [Act.put, List.setIfInBounds_toArray, List.set_cons_zero, List.set_cons_succ, i64_w, i32_w]
            rfl
          refine done_ (done_of HT_.out (by kernel_rfl)) ?_
          try go_wp2
          have n0_ := Aside0.mk (blk_drew BK235.out)
          have n1_ := Aside0.mk (blk_drew BK236.out)
          have n2_ := Aside0.mk (blk_drew BK246.out)
          have n3_ := Aside0.mk (below_drew1 HB.out)
          clear BK235
          clear BK236
          clear BK246
          clear HB
          have BK235 := n0_
          have BK236 := n1_
          have BK246 := n2_
          have HB := n3_
          clear n0_ n1_ n2_ n3_
          refine start_ (n := 18) (S := fun w' => w'.cell? ⟨gb246, 0, none⟩ = some (.int .i64 t243) ∧ w'.cell? ⟨gb246, 1, none⟩ = some (.int .i64 t244) ∧ w'.cell? ⟨gb235, 0, none⟩ = some (.int .u32 a2_0) ∧ w'.cell? ⟨gb235, 1, none⟩ = some (.int .u32 a2_1) ∧ w'.cell? ⟨gb235, 2, none⟩ = some (.int .u32 a2_2) ∧ w'.cell? ⟨gb235, 3, none⟩ = some (.int .u32 a2_3)) (ds := []) #[false, false, false, false, false, false, false, false, false, false, false, false, false, false, false, false, false, false] (by kernel_rfl) rfl rfl ⟨(blk_cell BK246.out 0).trans rfl, (blk_cell BK246.out 1).trans rfl, (blk_cell BK235.out 0).trans rfl, (blk_cell BK235.out 1).trans rfl, (blk_cell BK235.out 2).trans rfl, (blk_cell BK235.out 3).trans rfl⟩ (fun hHeld => ?_); refine with_tabW awardingbodylaw41_SignatureOther.tab8 awardingbodylaw41_SignatureOther.bits8 (fun HT_ HW_ => ?_)
          generalize w65.drew = w66 at BK235 BK236 BK246 HB hHeld ⊢
          refine pure_ (i := 0) (N := some 62) (v := ?_) (a' := ?_) #[true, false, false, false, false, false, false, false, false, false, false, false, false, false, false, false, false, false] rfl rfl (any_of HT_.out (by kernel_rfl)) (fun _ _ _ h => h) (Or.inl ⟨by rfl, ?_⟩) ?_ ?_
          rotate_left
          · intro w'
            go_simp
            with_reducible rfl
          rotate_left
          · simp only [Act.put, List.setIfInBounds_toArray, List.set_cons_zero, List.set_cons_succ, i64_w, i32_w]
            rfl
          refine pure_ (i := 2) (N := some 64) (v := ?_) (a' := ?_) #[true, false, true, false, false, false, false, false, false, false, false, false, false, false, false, false, false, false] rfl rfl (any_of HT_.out (by kernel_rfl)) (fun _ _ _ h => h) (Or.inl ⟨by rfl, ?_⟩) ?_ ?_
          rotate_left
          · intro w'
            go_simp
            with_reducible rfl
          rotate_left
          · simp only [Act.put, List.setIfInBounds_toArray, List.set_cons_zero, List.set_cons_succ, i64_w, i32_w]
            rfl
          refine pure_ (i := 5) (N := some 67) (v := ?_) (a' := ?_) #[true, false, true, false, false, true, false, false, false, false, false, false, false, false, false, false, false, false] rfl rfl (any_of HT_.out (by kernel_rfl)) (fun _ _ _ h => h) (Or.inl ⟨by rfl, ?_⟩) ?_ ?_
          rotate_left
          · intro w'
            go_simp
            with_reducible rfl
          rotate_left
          · simp only [Act.put, List.setIfInBounds_toArray, List.set_cons_zero, List.set_cons_succ, i64_w, i32_w]
            rfl
          refine pure_ (i := 7) (N := some 69) (v := ?_) (a' := ?_) #[true, false, true, false, false, true, false, true, false, false, false, false, false, false, false, false, false, false] rfl rfl (any_of HT_.out (by kernel_rfl)) (fun _ _ _ h => h) (Or.inl ⟨by rfl, ?_⟩) ?_ ?_
          rotate_left
          · intro w'
            go_simp
            with_reducible rfl
          rotate_left
          · simp only [Act.put, List.setIfInBounds_toArray, List.set_cons_zero, List.set_cons_succ, i64_w, i32_w]
            rfl
          refine pure_ (i := 9) (N := some 71) (v := ?_) (a' := ?_) #[true, false, true, false, false, true, false, true, false, true, false, false, false, false, false, false, false, false] rfl rfl (any_of HT_.out (by kernel_rfl)) (fun _ _ _ h => h) (Or.inl ⟨by rfl, ?_⟩) ?_ ?_
          rotate_left
          · intro w'
            go_simp
            with_reducible rfl
          rotate_left
          · simp only [Act.put, List.setIfInBounds_toArray, List.set_cons_zero, List.set_cons_succ, i64_w, i32_w]
            rfl
          refine pure_ (i := 12) (N := some 74) (v := ?_) (a' := ?_) #[true, false, true, false, false, true, false, true, false, true, false, false, true, false, false, false, false, false] rfl rfl (any_of HT_.out (by kernel_rfl)) (fun _ _ _ h => h) (Or.inl ⟨by rfl, ?_⟩) ?_ ?_
          rotate_left
          · intro w'
            go_simp
            with_reducible rfl
          rotate_left
          · simp only [Act.put, List.setIfInBounds_toArray, List.set_cons_zero, List.set_cons_succ, i64_w, i32_w]
            rfl
          refine take_ (i := 1) (N := some 63) (v := ?_) (a' := ?_) #[true, true, true, false, false, true, false, true, false, true, false, false, true, false, false, false, false, false] rfl rfl (take_ofW HT_.out HW_.out (by kernel_rfl)) (fun _ _ _ h => h) (Or.inl ⟨by rfl, ?_⟩) hHeld ?_ ?_
          rotate_left
          · rintro w' ⟨s0, s1, s2, s3, s4, s5⟩
            go_simp
            with_reducible rfl
          rotate_left
          · simp only [Act.put, List.setIfInBounds_toArray, List.set_cons_zero, List.set_cons_succ, i64_w, i32_w]
            rfl
          refine take_ (i := 3) (N := some 65) (v := ?_) (a' := ?_) #[true, true, true, true, false, true, false, true, false, true, false, false, true, false, false, false, false, false] rfl rfl (take_ofW HT_.out HW_.out (by kernel_rfl)) (fun _ _ _ h => h) (Or.inl ⟨by rfl, ?_⟩) hHeld ?_ ?_
          rotate_left
          · rintro w' ⟨s0, s1, s2, s3, s4, s5⟩
            go_simp
            with_reducible rfl
          rotate_left
          · simp only [Act.put, List.setIfInBounds_toArray, List.set_cons_zero, List.set_cons_succ, i64_w, i32_w]
            rfl
          refine take_ (i := 8) (N := some 70) (v := ?_) (a' := ?_) #[true, true, true, true, false, true, false, true, true, true, false, false, true, false, false, false, false, false] rfl rfl (take_ofW HT_.out HW_.out (by kernel_rfl)) (fun _ _ _ h => h) (Or.inl ⟨by rfl, ?_⟩) hHeld ?_ ?_
          rotate_left
          · rintro w' ⟨s0, s1, s2, s3, s4, s5⟩
            go_simp
            with_reducible rfl
          rotate_left
          · simp only [Act.put, List.setIfInBounds_toArray, List.set_cons_zero, List.set_cons_succ, i64_w, i32_w]
            rfl
          refine take_ (i := 10) (N := some 72) (v := ?_) (a' := ?_) #[true, true, true, true, false, true, false, true, true, true, true, false, true, false, false, false, false, false] rfl rfl (take_ofW HT_.out HW_.out (by kernel_rfl)) (fun _ _ _ h => h) (Or.inl ⟨by rfl, ?_⟩) hHeld ?_ ?_
          rotate_left
          · rintro w' ⟨s0, s1, s2, s3, s4, s5⟩
            go_simp
            with_reducible rfl
          rotate_left
          · simp only [Act.put, List.setIfInBounds_toArray, List.set_cons_zero, List.set_cons_succ, i64_w, i32_w]
            rfl
          refine one_ (i := 4) (N := some 66) #[true, true, true, true, true, true, false, true, true, true, true, false, true, false, false, false, false, false] rfl rfl (one_of HT_.out (by kernel_rfl)) (by decide) (fun K hK => ?_)
          refine goes_ Try.func17 (by kernel_rfl) rfl #[.int .i64 t243, .int .i64 t239, .agg #[.int .u32 a2_0, .int .u32 a2_1, .int .u32 a2_2, .int .u32 a2_3]] (by rfl) rfl rfl (by (try simp only [List.map_toArray, List.map_cons, List.map_nil]); first | done | rfl | (simp only [List.length_drop, List.length_take]; rfl)) ?_
          with_reducible refine (signature_Challenge.calls kj9 t243 t239 a2_0 a2_1 a2_2 a2_3 t249 _ A25.out).mono ?_
          rintro e w67 ⟨rfl, hb⟩
          refine ⟨_, rfl, ?_⟩
          have n0_ := Aside0.mk (blk_below (g := gb235) (o := .cells #[.int .u32 a2_0, .int .u32 a2_1, .int .u32 a2_2, .int .u32 a2_3] 24 (0, 0)) (by (with_reducible repeat (first | refine blk_drewN ?_ _ | refine blk_drew ?_ | refine blk_alloc ?_ _)); exact BK235.out) hb)
          have n1_ := Aside0.mk (blk_below (g := gb236) (o := .cells #[.int .u32 a3_0, .int .u32 a3_1, .int .u32 a3_2, .int .u32 a3_3] 24 (0, 0)) (by (with_reducible repeat (first | refine blk_drewN ?_ _ | refine blk_drew ?_ | refine blk_alloc ?_ _)); exact BK236.out) hb)
          have n2_ := Aside0.mk (blk_below (g := gb246) (o := .cells #[.int .i64 t243, .int .i64 t244] 26 (0, 0)) (by (with_reducible repeat (first | refine blk_drewN ?_ _ | refine blk_drew ?_ | refine blk_alloc ?_ _)); exact BK246.out) hb)
          have n3_ := Aside0.mk (below_step (by repeat (first | (with_reducible first | exact HB.out | apply below_alloc | apply pw_below_drewN | apply below_drew1 | refine below_set ?_ GE235.out | refine below_set ?_ GE236.out | refine below_set ?_ GE246.out) | exact HB.out)) hb)
          clear BK235
          clear BK236
          clear BK246
          clear HB
          have BK235 := n0_
          have BK236 := n1_
          have BK246 := n2_
          have HB := n3_
          clear n0_ n1_ n2_ n3_
          (try clear hb)
          (try clear hb2)
          (try clear hk)
          (try clear hi)
          refine hK.out _ _ ⟨(blk_cell BK246.out 0).trans rfl, (blk_cell BK246.out 1).trans rfl, (blk_cell BK235.out 0).trans rfl, (blk_cell BK235.out 1).trans rfl, (blk_cell BK235.out 2).trans rfl, (blk_cell BK235.out 3).trans rfl⟩ (fun hHeld => ?_)
          clear hK K
          refine norm_ (a' := ?_) ?_ ?_
          rotate_left
          · show Act.put _ (some 66) _ = _
            simp only [Act.put, List.setIfInBounds_toArray, List.set_cons_zero, List.set_cons_succ, i64_w, i32_w]
            rfl
          refine pure_ (i := 6) (N := some 68) (v := ?_) (a' := ?_) #[true, true, true, true, true, true, true, true, true, true, true, false, true, false, false, false, false, false] rfl rfl (any_of HT_.out (by kernel_rfl)) (fun _ _ _ h => h) (Or.inl ⟨by rfl, ?_⟩) ?_ ?_
          rotate_left
          · intro w'
            go_simp
            with_reducible rfl
          rotate_left
          · simp only [Act.put, List.setIfInBounds_toArray, List.set_cons_zero, List.set_cons_succ, i64_w, i32_w]
            rfl
          refine one_ (i := 11) (N := some 73) #[true, true, true, true, true, true, true, true, true, true, true, true, true, false, false, false, false, false] rfl rfl (one_of HT_.out (by kernel_rfl)) (by decide) (fun K hK => ?_)
          refine goes_ Try.func17 (by kernel_rfl) rfl #[.int .i64 t243, .int .i64 t241, .agg #[.int .u32 a2_0, .int .u32 a2_1, .int .u32 a2_2, .int .u32 a2_3]] (by rfl) rfl rfl (by (try simp only [List.map_toArray, List.map_cons, List.map_nil]); first | done | rfl | (simp only [List.length_drop, List.length_take]; rfl)) ?_
          with_reducible refine (signature_Challenge.calls kj9 t243 t241 a2_0 a2_1 a2_2 a2_3 t250 _ A26.out).mono ?_
          rintro e w68 ⟨rfl, hb⟩
          refine ⟨_, rfl, ?_⟩
          have n0_ := Aside0.mk (blk_below (g := gb235) (o := .cells #[.int .u32 a2_0, .int .u32 a2_1, .int .u32 a2_2, .int .u32 a2_3] 24 (0, 0)) (by (with_reducible repeat (first | refine blk_drewN ?_ _ | refine blk_drew ?_ | refine blk_alloc ?_ _)); exact BK235.out) hb)
          have n1_ := Aside0.mk (blk_below (g := gb236) (o := .cells #[.int .u32 a3_0, .int .u32 a3_1, .int .u32 a3_2, .int .u32 a3_3] 24 (0, 0)) (by (with_reducible repeat (first | refine blk_drewN ?_ _ | refine blk_drew ?_ | refine blk_alloc ?_ _)); exact BK236.out) hb)
          have n2_ := Aside0.mk (blk_below (g := gb246) (o := .cells #[.int .i64 t243, .int .i64 t244] 26 (0, 0)) (by (with_reducible repeat (first | refine blk_drewN ?_ _ | refine blk_drew ?_ | refine blk_alloc ?_ _)); exact BK246.out) hb)
          have n3_ := Aside0.mk (below_step (by repeat (first | (with_reducible first | exact HB.out | apply below_alloc | apply pw_below_drewN | apply below_drew1 | refine below_set ?_ GE235.out | refine below_set ?_ GE236.out | refine below_set ?_ GE246.out) | exact HB.out)) hb)
          clear BK235
          clear BK236
          clear BK246
          clear HB
          have BK235 := n0_
          have BK236 := n1_
          have BK246 := n2_
          have HB := n3_
          clear n0_ n1_ n2_ n3_
          (try clear hb)
          (try clear hb2)
          (try clear hk)
          (try clear hi)
          refine hK.out _ _ ⟨(blk_cell BK246.out 0).trans rfl, (blk_cell BK246.out 1).trans rfl, (blk_cell BK235.out 0).trans rfl, (blk_cell BK235.out 1).trans rfl, (blk_cell BK235.out 2).trans rfl, (blk_cell BK235.out 3).trans rfl⟩ (fun hHeld => ?_)
          clear hK K
          refine norm_ (a' := ?_) ?_ ?_
          rotate_left
          · show Act.put _ (some 73) _ = _
            simp only [Act.put, List.setIfInBounds_toArray, List.set_cons_zero, List.set_cons_succ, i64_w, i32_w]
            rfl
          refine pure_ (i := 13) (N := some 75) (v := ?_) (a' := ?_) #[true, true, true, true, true, true, true, true, true, true, true, true, true, true, false, false, false, false] rfl rfl (any_of HT_.out (by kernel_rfl)) (fun _ _ _ h => h) (Or.inl ⟨by rfl, ?_⟩) ?_ ?_
          rotate_left
          · intro w'
            go_simp
            with_reducible rfl
          rotate_left
          · simp only [Act.put, List.setIfInBounds_toArray, List.set_cons_zero, List.set_cons_succ, i64_w, i32_w]
            rfl
          refine pure_ (i := 14) (N := some 76) (v := ?_) (a' := ?_) #[true, true, true, true, true, true, true, true, true, true, true, true, true, true, true, false, false, false] rfl rfl (any_of HT_.out (by kernel_rfl)) (fun _ _ _ h => h) (Or.inl ⟨by rfl, ?_⟩) ?_ ?_
          rotate_left
          · intro w'
            go_simp
            with_reducible rfl
          rotate_left
          · simp only [Act.put, List.setIfInBounds_toArray, List.set_cons_zero, List.set_cons_succ, i64_w, i32_w]
            rfl
          refine pure_ (i := 15) (N := some 77) (v := ?_) (a' := ?_) #[true, true, true, true, true, true, true, true, true, true, true, true, true, true, true, true, false, false] rfl rfl (any_of HT_.out (by kernel_rfl)) (fun _ _ _ h => h) (Or.inl ⟨by rfl, ?_⟩) ?_ ?_
          rotate_left
          · intro w'
            go_simp
            with_reducible rfl
          rotate_left
          · simp only [Act.put, List.setIfInBounds_toArray, List.set_cons_zero, List.set_cons_succ, i64_w, i32_w]
            rfl
          refine pure_ (i := 16) (N := some 78) (v := ?_) (a' := ?_) #[true, true, true, true, true, true, true, true, true, true, true, true, true, true, true, true, true, false] rfl rfl (any_of HT_.out (by kernel_rfl)) (fun _ _ _ h => h) (Or.inl ⟨by rfl, ?_⟩) ?_ ?_
          rotate_left
          · intro w'
            go_simp
            with_reducible rfl
          rotate_left
          · simp only [Act.put, List.setIfInBounds_toArray, List.set_cons_zero, List.set_cons_succ, i64_w, i32_w]
            rfl
          refine pure_ (i := 17) (N := some 18) (v := ?_) (a' := ?_) #[true, true, true, true, true, true, true, true, true, true, true, true, true, true, true, true, true, true] rfl rfl (any_of HT_.out (by kernel_rfl)) (fun _ _ _ h => h) (Or.inl ⟨by rfl, ?_⟩) ?_ ?_
          rotate_left
          · intro w'
            go_simp
            with_reducible rfl
          rotate_left
          · simp only [Act.put, List.setIfInBounds_toArray, List.set_cons_zero, List.set_cons_succ, i64_w, i32_w]
            rfl
          refine done_ (done_of HT_.out (by kernel_rfl)) ?_
          have hnb69 := NB236_235.out
          have hnc69 := NB235_236.out
          have hnb70 := NB236_246.out
          have hnc70 := NB246_236.out
          have hcz71_0 : w68.cell? ⟨gb236, 0, none⟩ = some (.int .u32 a3_0) := (blk_cell BK236.out 0).trans rfl
          have hcz71_1 : w68.cell? ⟨gb236, 1, none⟩ = some (.int .u32 a3_1) := (blk_cell BK236.out 1).trans rfl
          have hcz71_2 : w68.cell? ⟨gb236, 2, none⟩ = some (.int .u32 a3_2) := (blk_cell BK236.out 2).trans rfl
          have hcz71_3 : w68.cell? ⟨gb236, 3, none⟩ = some (.int .u32 a3_3) := (blk_cell BK236.out 3).trans rfl
          have hfz71_0 := blk_frozen BK236.out 0
          have hfz71_1 := blk_frozen BK236.out 1
          have hfz71_2 := blk_frozen BK236.out 2
          have hfz71_3 := blk_frozen BK236.out 3
          have hnb72 := NB246_235.out
          have hnc72 := NB235_246.out
          have hcz73_0 : w68.cell? ⟨gb246, 0, none⟩ = some (.int .i64 t243) := (blk_cell BK246.out 0).trans rfl
          have hcz73_1 : w68.cell? ⟨gb246, 1, none⟩ = some (.int .i64 t244) := (blk_cell BK246.out 1).trans rfl
          have hfz73_0 := blk_frozen BK246.out 0
          have hfz73_1 := blk_frozen BK246.out 1
          try go_wp2_with (first | ((with_reducible refine gate_callee (f := 19) rfl ?_); refine goesL_ (some 82) rfl rfl Try.func19 (by kernel_rfl) rfl #[.int .i64 t239, .agg #[.int .u32 a3_0, .int .u32 a3_1, .int .u32 a3_2, .int .u32 a3_3], .agg #[.int .i64 t243, .int .i64 t244]] rfl (by (try simp only [List.map_toArray, List.map_cons, List.map_nil]); first | done | rfl | (simp only [List.length_drop, List.length_take]; rfl)) ?_; (with_reducible refine (signature_Verify.calls kj9 t239 a3_0 a3_1 a3_2 a3_3 t243 t244 t251 _ A27.out).mono ?_); rintro e w74 ⟨rfl, hb⟩; refine ⟨_, rfl, ?_⟩; have n0_ := Aside0.mk (blk_below (g := gb235) (o := .cells #[.int .u32 a2_0, .int .u32 a2_1, .int .u32 a2_2, .int .u32 a2_3] 24 (0, 0)) (by (with_reducible repeat (first | refine blk_drewN ?_ _ | refine blk_drew ?_ | refine blk_alloc ?_ _)); exact BK235.out) hb); have n1_ := Aside0.mk (blk_below (g := gb236) (o := .cells #[.int .u32 a3_0, .int .u32 a3_1, .int .u32 a3_2, .int .u32 a3_3] 24 (0, 0)) (by (with_reducible repeat (first | refine blk_drewN ?_ _ | refine blk_drew ?_ | refine blk_alloc ?_ _)); exact BK236.out) hb); have n2_ := Aside0.mk (blk_below (g := gb246) (o := .cells #[.int .i64 t243, .int .i64 t244] 26 (0, 0)) (by (with_reducible repeat (first | refine blk_drewN ?_ _ | refine blk_drew ?_ | refine blk_alloc ?_ _)); exact BK246.out) hb); have n3_ := Aside0.mk (below_step (by repeat (first | (with_reducible first | exact HB.out | apply below_alloc | apply pw_below_drewN | apply below_drew1 | refine below_set ?_ GE235.out | refine below_set ?_ GE236.out | refine below_set ?_ GE246.out) | exact HB.out)) hb); clear BK235; clear BK236; clear BK246; clear HB; have BK235 := n0_; have BK236 := n1_; have BK246 := n2_; have HB := n3_; clear n0_ n1_ n2_ n3_; (try clear hb); (try clear hb2); (try clear hk); (try clear hi)))
          go_ret
          exact ⟨by first | rfl | (simp [errW_none, errW_some] <;> rfl) | (simp [*, errW_none, errW_some] <;> rfl), by repeat (first | (with_reducible first | exact HB.out | apply below_alloc | apply pw_below_drewN | apply below_drew1 | refine below_set ?_ GE235.out | refine below_set ?_ GE236.out | refine below_set ?_ GE246.out) | exact HB.out)⟩

/-- THE ONE PURE STATEMENT of awardingbodylaw41_SignatureOther. -/
def awardingbodylaw41_SignatureOther.Pure : Prop := ∀ (a0 : Int) (a1 : Int) (a2_0 : Int) (a2_1 : Int) (a2_2 : Int) (a2_3 : Int) (a3_0 : Int) (a3_1 : Int) (a3_2 : Int) (a3_3 : Int), (Lit.int .i64 a0).wf = true → (Lit.int .i64 a1).wf = true → (Lit.int .u32 a2_0).wf = true → (Lit.int .u32 a2_1).wf = true → (Lit.int .u32 a2_2).wf = true → (Lit.int .u32 a2_3).wf = true → (Lit.int .u32 a3_0).wf = true → (Lit.int .u32 a3_1).wf = true → (Lit.int .u32 a3_2).wf = true → (Lit.int .u32 a3_3).wf = true → ∃ k, awardingbodylaw41_SignatureOther.f k a0 a1 a2_0 a2_1 a2_2 a2_3 a3_0 a3_1 a3_2 a3_3 = some true
theorem awardingbodylaw41_SignatureOther.walk (P : awardingbodylaw41_SignatureOther.Pure) (a0 : Int) (a1 : Int) (a2_0 : Int) (a2_1 : Int) (a2_2 : Int) (a2_3 : Int) (a3_0 : Int) (a3_1 : Int) (a3_2 : Int) (a3_3 : Int) (w : World) (w0 : (Lit.int .i64 a0).wf = true) (w1 : (Lit.int .i64 a1).wf = true) (w2_0 : (Lit.int .u32 a2_0).wf = true) (w2_1 : (Lit.int .u32 a2_1).wf = true) (w2_2 : (Lit.int .u32 a2_2).wf = true) (w2_3 : (Lit.int .u32 a2_3).wf = true) (w3_0 : (Lit.int .u32 a3_0).wf = true) (w3_1 : (Lit.int .u32 a3_1).wf = true) (w3_2 : (Lit.int .u32 a3_2).wf = true) (w3_3 : (Lit.int .u32 a3_3).wf = true) :
    Calls Try.prog 7 #[.int .i64 a0, .int .i64 a1, .agg #[.int .u32 a2_0, .int .u32 a2_1, .int .u32 a2_2, .int .u32 a2_3], .agg #[.int .u32 a3_0, .int .u32 a3_1, .int .u32 a3_2, .int .u32 a3_3]] w fun e w' => e = .returned (.bool true) ∧ Below w.heap.size w w' := by
  obtain ⟨k, h⟩ := P a0 a1 a2_0 a2_1 a2_2 a2_3 a3_0 a3_1 a3_2 a3_3 w0 w1 w2_0 w2_1 w2_2 w2_3 w3_0 w3_1 w3_2 w3_3
  refine (awardingbodylaw41_SignatureOther.calls k a0 a1 a2_0 a2_1 a2_2 a2_3 a3_0 a3_1 a3_2 a3_3 true w h).mono ?_
  rintro e w' ⟨rfl, hd⟩
  exact ⟨rfl, hd⟩

end Go.Proofs.Ytijmmnlhbbmhlaa.XA
