/- Go functions of the program as plain Lean functions with a number of rounds, and that the calls come to exactly their answers. Conditions: those in each theorem. Written by a program of this project (wip/tools/xprint.py). -/
import Derived.Test.YtijmmnlhbbmhlaaXAx0
import Derived.Test.YtijmmnlhbbmhlaaXAx1
import Derived.Test.YtijmmnlhbbmhlaaXAx2
namespace Go.Proofs.Ytijmmnlhbbmhlaa.XA
open Go.RowKit Go.Proofs.Ytijmmnlhbbmhlaa.Ix Go.Proofs.YtijmmnlhbbmhlaaW.PrintWords Go.Proofs.YtijmmnlhbbmhlaaW.PrintLast Go.Proofs.YtijmmnlhbbmhlaaW.PrintMore
attribute [local go_sem] max2_int min2_int max_two min_two max_three min_three max_four min_four   -- for this text's walks alone
set_option linter.unusedVariables false
set_option linter.unusedSimpArgs false

/-! ### awardingbodylaw41_SignatureHolds: function 4 -/
def awardingbodylaw41_SignatureHolds.j0 : Nat → Int → Int → Bool → Int → Int → Int → Int → Int → Int → Option (Bool)
  | 0, _, _, _, _, _, _, _, _, _ => none
  | k + 1, x2, x8, x40, x221000, x221001, x221002, x221003, x228000, x228001 => if x40 = true then (some false) else ((awardingbodymark_Mod.f x2 1073741788).bind fun t230 => ((signature_Verify.f k x8 x221000 x221001 x221002 x221003 x228000 (Int.tmod (wrap64 ((wrap64 (x228001 + 1)) + t230)) 1073741789)).bind fun t232 => (if t232 = true then (some false) else ((signature_Verify.f k x8 x221000 x221001 x221002 x221003 x228000 (wrap64 (x228001 + 1073741789))).bind fun t233 => (if t233 = true then (some false) else ((awardingbodylaw41_sane.f k).bind fun t234 => (some t234)))))))
def awardingbodylaw41_SignatureHolds.f (k : Nat) (a0 : Int) (a1_0 : Int) (a1_1 : Int) (a1_2 : Int) (a1_3 : Int) (a2 : Int) : Option (Bool) := (awardingbodymark_Mod.f a0 1073741788).bind fun t221 => ((signature_Public.f k (wrap64 (1 + t221))).bind fun bt222 => ((signature_Sign.f k (wrap64 (1 + t221)) a1_0 a1_1 a1_2 a1_3).bind fun bt224 => (if bt222.2 = 0 then (if bt224.2.2 = 0 then ((signature_Verify.f k bt222.1 a1_0 a1_1 a1_2 a1_3 bt224.1 bt224.2.1).bind fun t228 => (awardingbodylaw41_SignatureHolds.j0 k a2 bt222.1 (!t228) a1_0 a1_1 a1_2 a1_3 bt224.1 bt224.2.1)) else (awardingbodylaw41_SignatureHolds.j0 k a2 bt222.1 true a1_0 a1_1 a1_2 a1_3 bt224.1 bt224.2.1)) else (awardingbodylaw41_SignatureHolds.j0 k a2 bt222.1 true a1_0 a1_1 a1_2 a1_3 bt224.1 bt224.2.1))))
theorem awardingbodylaw41_SignatureHolds.mono_l : ∀ k, (∀ y0 y1 y2 y3 y4 y5 y6 y7 y8, LeO (awardingbodylaw41_SignatureHolds.j0 k y0 y1 y2 y3 y4 y5 y6 y7 y8) (awardingbodylaw41_SignatureHolds.j0 (k + 1) y0 y1 y2 y3 y4 y5 y6 y7 y8))
  | 0 => fun _ _ _ _ _ _ _ _ _ r h => by simp [awardingbodylaw41_SignatureHolds.j0] at h
  | k + 1 => by
    have ih0 := awardingbodylaw41_SignatureHolds.mono_l k
    · intro y0 y1 y2 y3 y4 y5 y6 y7 y8
      unfold awardingbodylaw41_SignatureHolds.j0
      repeat' first
      | (with_reducible exact ih0 _ _ _ _ _ _ _ _ _)
      | (with_reducible exact awardingbodylaw41_sane.mono _)
      | (with_reducible exact signature_Public.mono _ _)
      | (with_reducible exact signature_Sign.mono _ _ _ _ _ _)
      | (with_reducible exact signature_Verify.mono _ _ _ _ _ _ _ _)
      | (with_reducible exact LeO.refl _)
      | (with_reducible exact LeO.none _)
      | (with_reducible refine LeO.ite ?_ ?_)
      | (with_reducible refine LeO.bind ?_ (fun _ => ?_))
      | exact ih0 _ _ _ _ _ _ _ _ _
      | exact awardingbodylaw41_sane.mono _
      | exact signature_Public.mono _ _
      | exact signature_Sign.mono _ _ _ _ _ _
      | exact signature_Verify.mono _ _ _ _ _ _ _ _
      | exact LeO.none _
      | refine LeO.ite ?_ ?_
      | refine LeO.bind ?_ (fun _ => ?_)
theorem awardingbodylaw41_SignatureHolds.mono : ∀ a0 a1 a2 a3 a4 a5 k, LeO (awardingbodylaw41_SignatureHolds.f k a0 a1 a2 a3 a4 a5) (awardingbodylaw41_SignatureHolds.f (k + 1) a0 a1 a2 a3 a4 a5) := by
  intro a0 a1 a2 a3 a4 a5 k
  have ih0 := awardingbodylaw41_SignatureHolds.mono_l k
  unfold awardingbodylaw41_SignatureHolds.f
  repeat' first
      | (with_reducible exact ih0 _ _ _ _ _ _ _ _ _)
      | (with_reducible exact awardingbodylaw41_sane.mono _)
      | (with_reducible exact signature_Public.mono _ _)
      | (with_reducible exact signature_Sign.mono _ _ _ _ _ _)
      | (with_reducible exact signature_Verify.mono _ _ _ _ _ _ _ _)
      | (with_reducible exact LeO.refl _)
      | (with_reducible exact LeO.none _)
      | (with_reducible refine LeO.ite ?_ ?_)
      | (with_reducible refine LeO.bind ?_ (fun _ => ?_))
      | exact ih0 _ _ _ _ _ _ _ _ _
      | exact awardingbodylaw41_sane.mono _
      | exact signature_Public.mono _ _
      | exact signature_Sign.mono _ _ _ _ _ _
      | exact signature_Verify.mono _ _ _ _ _ _ _ _
      | exact LeO.none _
      | refine LeO.ite ?_ ?_
      | refine LeO.bind ?_ (fun _ => ?_)
def awardingbodylaw41_SignatureHolds.T7 : Bool × List (List Nat × List Nat) := (true, [([], []), ([0], [0]), ([1], [1]), ([], []), ([3], [3]), ([2, 4], [2, 4]), ([5], [5]), ([0, 1, 2, 3, 4, 5, 6], []), ([7, 6, 4, 0, 1, 2, 3, 4, 5, 6], [6, 7])])
def awardingbodylaw41_SignatureHolds.B7 : List Nat := [0, 1, 3, 0, 8, 31, 63, 127, 255]
theorem awardingbodylaw41_SignatureHolds.tab7 : rtab .any (opsOf Try.f4 7) = awardingbodylaw41_SignatureHolds.T7 := by kernel_rfl
theorem awardingbodylaw41_SignatureHolds.bits7 : waitsOk awardingbodylaw41_SignatureHolds.T7.2 awardingbodylaw41_SignatureHolds.B7 = true := by kernel_rfl
set_option maxHeartbeats 8000000 in
set_option maxRecDepth 100000 in
theorem awardingbodylaw41_SignatureHolds.calls (k : Nat) (a0 : Int) (a1_0 : Int) (a1_1 : Int) (a1_2 : Int) (a1_3 : Int) (a2 : Int) (r : Bool) (w : World) (h : awardingbodylaw41_SignatureHolds.f k a0 a1_0 a1_1 a1_2 a1_3 a2 = some r) :
    Calls Try.prog 4 #[.int .i64 a0, .agg #[.int .u32 a1_0, .int .u32 a1_1, .int .u32 a1_2, .int .u32 a1_3], .int .i64 a2] w fun e w' => e = .returned (.bool r) ∧ Below w.heap.size w w' := by
  have hu24 := Try.underlying24
  have hu26 := Try.underlying26
  have HB := Aside0.mk (Below.refl w.heap.size w)
  have H : ((awardingbodymark_Mod.f a0 1073741788).bind fun t221 => ((signature_Public.f k (wrap64 (1 + t221))).bind fun bt222 => ((signature_Sign.f k (wrap64 (1 + t221)) a1_0 a1_1 a1_2 a1_3).bind fun bt224 => (if bt222.2 = 0 then (if bt224.2.2 = 0 then ((signature_Verify.f k bt222.1 a1_0 a1_1 a1_2 a1_3 bt224.1 bt224.2.1).bind fun t228 => (awardingbodylaw41_SignatureHolds.j0 k a2 bt222.1 (!t228) a1_0 a1_1 a1_2 a1_3 bt224.1 bt224.2.1)) else (awardingbodylaw41_SignatureHolds.j0 k a2 bt222.1 true a1_0 a1_1 a1_2 a1_3 bt224.1 bt224.2.1)) else (awardingbodylaw41_SignatureHolds.j0 k a2 bt222.1 true a1_0 a1_1 a1_2 a1_3 bt224.1 bt224.2.1))))) = some r := h
  clear h
  replace H := Option.bind_eq_some_iff.mp H
  obtain ⟨t221, A40, H⟩ := H
  replace H : ((signature_Public.f k (wrap64 (1 + t221))).bind fun bt222 => ((signature_Sign.f k (wrap64 (1 + t221)) a1_0 a1_1 a1_2 a1_3).bind fun bt224 => (if bt222.2 = 0 then (if bt224.2.2 = 0 then ((signature_Verify.f k bt222.1 a1_0 a1_1 a1_2 a1_3 bt224.1 bt224.2.1).bind fun t228 => (awardingbodylaw41_SignatureHolds.j0 k a2 bt222.1 (!t228) a1_0 a1_1 a1_2 a1_3 bt224.1 bt224.2.1)) else (awardingbodylaw41_SignatureHolds.j0 k a2 bt222.1 true a1_0 a1_1 a1_2 a1_3 bt224.1 bt224.2.1)) else (awardingbodylaw41_SignatureHolds.j0 k a2 bt222.1 true a1_0 a1_1 a1_2 a1_3 bt224.1 bt224.2.1)))) = some r := H
  have A4 := Aside0.mk A40
  clear A40
  replace H := Option.bind_eq_some_iff.mp H
  obtain ⟨⟨t222, t223⟩, A50, H⟩ := H
  replace H : ((signature_Sign.f k (wrap64 (1 + t221)) a1_0 a1_1 a1_2 a1_3).bind fun bt224 => (if t223 = 0 then (if bt224.2.2 = 0 then ((signature_Verify.f k t222 a1_0 a1_1 a1_2 a1_3 bt224.1 bt224.2.1).bind fun t228 => (awardingbodylaw41_SignatureHolds.j0 k a2 t222 (!t228) a1_0 a1_1 a1_2 a1_3 bt224.1 bt224.2.1)) else (awardingbodylaw41_SignatureHolds.j0 k a2 t222 true a1_0 a1_1 a1_2 a1_3 bt224.1 bt224.2.1)) else (awardingbodylaw41_SignatureHolds.j0 k a2 t222 true a1_0 a1_1 a1_2 a1_3 bt224.1 bt224.2.1))) = some r := H
  have A5 := Aside0.mk A50
  clear A50
  replace H := Option.bind_eq_some_iff.mp H
  obtain ⟨⟨t224, t225, t226⟩, A60, H⟩ := H
  replace H : (if t223 = 0 then (if t226 = 0 then ((signature_Verify.f k t222 a1_0 a1_1 a1_2 a1_3 t224 t225).bind fun t228 => (awardingbodylaw41_SignatureHolds.j0 k a2 t222 (!t228) a1_0 a1_1 a1_2 a1_3 t224 t225)) else (awardingbodylaw41_SignatureHolds.j0 k a2 t222 true a1_0 a1_1 a1_2 a1_3 t224 t225)) else (awardingbodylaw41_SignatureHolds.j0 k a2 t222 true a1_0 a1_1 a1_2 a1_3 t224 t225)) = some r := H
  have A6 := Aside0.mk A60
  clear A60
  have HC7 := Aside0.mk H
  clear H
  go_enter Try.func4, Try.ntmps4
  go_upto_region 4 with (first | ((with_reducible refine gate_dst (N := 4) rfl ?_); refine box_event ?hg (N := 4) ?hd (cs := #[.int .u32 a1_0, .int .u32 a1_1, .int .u32 a1_2, .int .u32 a1_3]) (t := 24) ?hr ?_; (case hd => rfl); (case hg => rfl); (case hr => first | (go_simp; done) | (go_simp; rfl)); intro gb220 hg w8 hbox hb; have n0_ := Aside0.mk (below_step (by repeat (first | (with_reducible first | exact HB.out | apply below_alloc | apply pw_below_drewN | apply below_drew1) | exact HB.out)) hb); have n1_ := Aside0.mk (hbox); have n2_ := Aside0.mk ((by rw [hg]; exact (below_size (by repeat (first | (with_reducible first | exact HB.out | apply below_alloc | apply pw_below_drewN | apply below_drew1) | exact HB.out))) : w.heap.size ≤ gb220)); have n3_ := Aside0.mk ((by rw [hg]; exact (below_size (by repeat (first | (with_reducible first | exact HB.out | apply below_alloc | apply pw_below_drewN | apply below_drew1) | exact HB.out))) : w.heap.size ≤ gb220)); clear HB; have HB := n0_; have BK220 := n1_; have GW220 := n2_; have GE220 := n3_; clear n0_ n1_ n2_ n3_; clear hb hbox hg) | ((with_reducible refine gate_callee (f := 8) rfl ?_); refine goesL_ (some 15) rfl rfl Try.func8 (by kernel_rfl) rfl #[.int .i64 a0, .int .i64 1073741788] rfl (by (try simp only [List.map_toArray, List.map_cons, List.map_nil]); first | done | rfl | (simp only [List.length_drop, List.length_take]; rfl)) ?_; (with_reducible refine (awardingbodymark_Mod.calls a0 1073741788 t221 _ A4.out).mono ?_); rintro e w' ⟨rfl, ⟨nd, rfl⟩⟩; refine ⟨_, rfl, ?_⟩; (try (rw [drewN_self w8]; generalize hq_ : World.drewN w8 _ = w8; have n0_ : Aside0 (w8.heap[gb220]? = some (.cells #[.int .u32 a1_0, .int .u32 a1_1, .int .u32 a1_2, .int .u32 a1_3] 24 (0, 0))) := ⟨by rw [← hq_]; exact (by (with_reducible repeat (first | refine blk_drewN ?_ _ | refine blk_drew ?_ | refine blk_alloc ?_ _)); exact BK220.out)⟩; have n1_ : Aside0 (Below w.heap.size w w8) := ⟨by rw [← hq_]; exact (by repeat (first | (with_reducible first | exact HB.out | apply below_alloc | apply pw_below_drewN | apply below_drew1 | refine below_set ?_ GE220.out) | exact HB.out))⟩; clear BK220 HB hq_; have BK220 := n0_; have HB := n1_; clear n0_ n1_))) | ((with_reducible refine gate_callee (f := 9) rfl ?_); refine goesL_ (some 19) rfl rfl Try.func9 (by kernel_rfl) rfl #[.int .i64 (wrap64 (1 + t221))] rfl (by (try simp only [List.map_toArray, List.map_cons, List.map_nil]); first | done | rfl | (simp only [List.length_drop, List.length_take]; rfl)) ?_; (with_reducible refine (signature_Public.calls k (wrap64 (1 + t221)) t222 t223 _ A5.out).mono ?_); rintro e w' ⟨rfl, ⟨nd, rfl⟩⟩; refine ⟨_, rfl, ?_⟩; (try (rw [drewN_self w8]; generalize hq_ : World.drewN w8 _ = w8; have n0_ : Aside0 (w8.heap[gb220]? = some (.cells #[.int .u32 a1_0, .int .u32 a1_1, .int .u32 a1_2, .int .u32 a1_3] 24 (0, 0))) := ⟨by rw [← hq_]; exact (by (with_reducible repeat (first | refine blk_drewN ?_ _ | refine blk_drew ?_ | refine blk_alloc ?_ _)); exact BK220.out)⟩; have n1_ : Aside0 (Below w.heap.size w w8) := ⟨by rw [← hq_]; exact (by repeat (first | (with_reducible first | exact HB.out | apply below_alloc | apply pw_below_drewN | apply below_drew1 | refine below_set ?_ GE220.out) | exact HB.out))⟩; clear BK220 HB hq_; have BK220 := n0_; have HB := n1_; clear n0_ n1_)); have hcz9_0 : w8.cell? ⟨gb220, 0, none⟩ = some (.int .u32 a1_0) := (blk_cell BK220.out 0).trans rfl; have hcz9_1 : w8.cell? ⟨gb220, 1, none⟩ = some (.int .u32 a1_1) := (blk_cell BK220.out 1).trans rfl; have hcz9_2 : w8.cell? ⟨gb220, 2, none⟩ = some (.int .u32 a1_2) := (blk_cell BK220.out 2).trans rfl; have hcz9_3 : w8.cell? ⟨gb220, 3, none⟩ = some (.int .u32 a1_3) := (blk_cell BK220.out 3).trans rfl; have hfz9_0 := blk_frozen BK220.out 0; have hfz9_1 := blk_frozen BK220.out 1; have hfz9_2 := blk_frozen BK220.out 2; have hfz9_3 := blk_frozen BK220.out 3) | ((with_reducible refine gate_callee (f := 11) rfl ?_); refine goesL_ (some 25) rfl rfl Try.func11 (by kernel_rfl) rfl #[.int .i64 (wrap64 (1 + t221)), .agg #[.int .u32 a1_0, .int .u32 a1_1, .int .u32 a1_2, .int .u32 a1_3]] rfl (by (try simp only [List.map_toArray, List.map_cons, List.map_nil]); first | done | rfl | (simp only [List.length_drop, List.length_take]; rfl)) ?_; (with_reducible refine (signature_Sign.calls k (wrap64 (1 + t221)) a1_0 a1_1 a1_2 a1_3 t224 t225 t226 _ A6.out).mono ?_); rintro e w10 ⟨rfl, hb⟩; refine ⟨_, rfl, ?_⟩; have n0_ := Aside0.mk (blk_below (g := gb220) (o := .cells #[.int .u32 a1_0, .int .u32 a1_1, .int .u32 a1_2, .int .u32 a1_3] 24 (0, 0)) (by (with_reducible repeat (first | refine blk_drewN ?_ _ | refine blk_drew ?_ | refine blk_alloc ?_ _)); exact BK220.out) hb); have n1_ := Aside0.mk (below_step (by repeat (first | (with_reducible first | exact HB.out | apply below_alloc | apply pw_below_drewN | apply below_drew1 | refine below_set ?_ GE220.out) | exact HB.out)) hb); clear BK220; clear HB; have BK220 := n0_; have HB := n1_; clear n0_ n1_; (try clear hb); (try clear hb2); (try clear hk); (try clear hi)) | ((with_reducible refine gate_dst (N := 10) rfl ?_); refine box_event ?hg (N := 10) ?hd (cs := #[.int .i64 0, .int .i64 0]) (t := 26) ?hr ?_; (case hd => rfl); (case hg => rfl); (case hr => first | (go_simp; done) | (go_simp; rfl)); intro gb227 hg w11 hbox hb; have n0_ := Aside0.mk (blk_below (g := gb220) (o := .cells #[.int .u32 a1_0, .int .u32 a1_1, .int .u32 a1_2, .int .u32 a1_3] 24 (0, 0)) (by (with_reducible repeat (first | refine blk_drewN ?_ _ | refine blk_drew ?_ | refine blk_alloc ?_ _)); exact BK220.out) hb); have n1_ := Aside0.mk (below_step (by repeat (first | (with_reducible first | exact HB.out | apply below_alloc | apply pw_below_drewN | apply below_drew1 | refine below_set ?_ GE220.out) | exact HB.out)) hb); have n2_ := Aside0.mk (hbox); have n3_ := Aside0.mk ((by rw [hg]; exact (below_size (by repeat (first | (with_reducible first | exact HB.out | apply below_alloc | apply pw_below_drewN | apply below_drew1 | refine below_set ?_ GE220.out) | exact HB.out))) : w.heap.size ≤ gb227)); have n4_ := Aside0.mk ((by rw [hg]; exact (below_size (by repeat (first | (with_reducible first | exact HB.out | apply below_alloc | apply pw_below_drewN | apply below_drew1 | refine below_set ?_ GE220.out) | exact HB.out))) : w.heap.size ≤ gb227)); have n5_ := Aside0.mk ((by rw [hg]; exact Nat.ne_of_lt (blk_lt (g := gb220) (o := .cells #[.int .u32 a1_0, .int .u32 a1_1, .int .u32 a1_2, .int .u32 a1_3] 24 (0, 0)) (by (with_reducible repeat (first | refine blk_drewN ?_ _ | refine blk_drew ?_ | refine blk_alloc ?_ _)); exact BK220.out)) : gb220 ≠ gb227)); have n6_ := Aside0.mk ((by rw [hg]; exact Nat.ne_of_gt (blk_lt (g := gb220) (o := .cells #[.int .u32 a1_0, .int .u32 a1_1, .int .u32 a1_2, .int .u32 a1_3] 24 (0, 0)) (by (with_reducible repeat (first | refine blk_drewN ?_ _ | refine blk_drew ?_ | refine blk_alloc ?_ _)); exact BK220.out)) : gb227 ≠ gb220)); clear BK220; clear HB; have BK220 := n0_; have HB := n1_; have BK227 := n2_; have GW227 := n3_; have GE227 := n4_; have NB220_227 := n5_; have NB227_220 := n6_; clear n0_ n1_ n2_ n3_ n4_ n5_ n6_; clear hb hbox hg; have hnb12 := NB227_220.out; have hnc12 := NB220_227.out; have hcz13_0 : w11.cell? ⟨gb227, 0, none⟩ = some (.int .i64 0) := (blk_cell BK227.out 0).trans rfl; have hcz13_1 : w11.cell? ⟨gb227, 1, none⟩ = some (.int .i64 0) := (blk_cell BK227.out 1).trans rfl; have hfz13_0 := blk_frozen BK227.out 0; have hfz13_1 := blk_frozen BK227.out 1))
  (try simp only [Act.put, List.setIfInBounds_toArray, List.set_cons_zero, List.set_cons_succ])
  go_cut [40] (fun v40 wc => ∃ (kq : Nat) (x40_6 : Bool), v40 = .bool x40_6 ∧ Aside0 (awardingbodylaw41_SignatureHolds.j0 kq a2 t222 x40_6 a1_0 a1_1 a1_2 a1_3 t224 t225 = some r) ∧ Aside0 (kq ≤ k) ∧ Aside0 (wc.heap[gb220]? = some (.cells #[.int .u32 a1_0, .int .u32 a1_1, .int .u32 a1_2, .int .u32 a1_3] 24 (0, 0))) ∧ Aside0 (wc.heap[gb227]? = some (.cells #[.int .i64 t224, .int .i64 t225] 26 (0, 0))) ∧ Aside0 (Below w.heap.size w wc))
  case first =>
    have H := HC7.out
    clear HC7
    by_cases c14 : t223 = 0
    · rw [if_pos c14] at H
      have c14b0 : (t223 == 0) = true := beq_iff_eq.mpr c14
      have c14b1 : (t223 != 0) = false := bne_eq_false_iff_eq.mpr c14
      clear c14
      (first | rw [c14b0] | (simp only [i64_w, i32_w]; rw [c14b0]) | skip)
      by_cases c15 : t226 = 0
      · rw [if_pos c15] at H
        have c15b0 : (t226 == 0) = true := beq_iff_eq.mpr c15
        have c15b1 : (t226 != 0) = false := bne_eq_false_iff_eq.mpr c15
        clear c15
        replace H := Option.bind_eq_some_iff.mp H
        obtain ⟨t228, A160, H⟩ := H
        replace H : (awardingbodylaw41_SignatureHolds.j0 k a2 t222 (!t228) a1_0 a1_1 a1_2 a1_3 t224 t225) = some r := H
        have A16 := Aside0.mk A160
        clear A160
        have H' := Aside0.mk H
        clear H
        have hnb17 := NB220_227.out
        have hnc17 := NB227_220.out
        have hcz18_0 : w11.cell? ⟨gb220, 0, none⟩ = some (.int .u32 a1_0) := (blk_cell BK220.out 0).trans rfl
        have hcz18_1 : w11.cell? ⟨gb220, 1, none⟩ = some (.int .u32 a1_1) := (blk_cell BK220.out 1).trans rfl
        have hcz18_2 : w11.cell? ⟨gb220, 2, none⟩ = some (.int .u32 a1_2) := (blk_cell BK220.out 2).trans rfl
        have hcz18_3 : w11.cell? ⟨gb220, 3, none⟩ = some (.int .u32 a1_3) := (blk_cell BK220.out 3).trans rfl
        have hfz18_0 := blk_frozen BK220.out 0
        have hfz18_1 := blk_frozen BK220.out 1
        have hfz18_2 := blk_frozen BK220.out 2
        have hfz18_3 := blk_frozen BK220.out 3
        have hcz19_0 : w11.cell? ⟨gb227, 0, none⟩ = some (.int .i64 0) := (blk_cell BK227.out 0).trans rfl
        have hcz19_1 : w11.cell? ⟨gb227, 1, none⟩ = some (.int .i64 0) := (blk_cell BK227.out 1).trans rfl
        have hfz19_0 := blk_frozen BK227.out 0
        have hfz19_1 := blk_frozen BK227.out 1
        go_wp2_with (first | (go_at_call 19; (with_reducible refine (signature_Verify.calls k t222 a1_0 a1_1 a1_2 a1_3 t224 t225 t228 _ A16.out).mono ?_); rintro e w20 ⟨rfl, hb⟩; have n0_ := Aside0.mk (blk_below (g := gb220) (o := .cells #[.int .u32 a1_0, .int .u32 a1_1, .int .u32 a1_2, .int .u32 a1_3] 24 (0, 0)) (by (with_reducible repeat (first | refine blk_drewN ?_ _ | refine blk_drew ?_ | refine blk_alloc ?_ _)); refine blk_far ?_ NB220_227.out _; (with_reducible repeat (first | refine blk_drewN ?_ _ | refine blk_drew ?_ | refine blk_alloc ?_ _)); refine blk_far ?_ NB220_227.out _; (with_reducible repeat (first | refine blk_drewN ?_ _ | refine blk_drew ?_ | refine blk_alloc ?_ _)); exact BK220.out) hb); have n1_ := Aside0.mk (blk_below (g := gb227) (o := .cells #[.int .i64 t224, .int .i64 t225] 26 (0, 0)) (by (with_reducible repeat (first | refine blk_drewN ?_ _ | refine blk_drew ?_ | refine blk_alloc ?_ _)); refine blk_put (cs := #[.int .i64 t224, .int .i64 0]) ?_ 1 _ rfl; (with_reducible repeat (first | refine blk_drewN ?_ _ | refine blk_drew ?_ | refine blk_alloc ?_ _)); refine blk_put (cs := #[.int .i64 0, .int .i64 0]) ?_ 0 _ rfl; (with_reducible repeat (first | refine blk_drewN ?_ _ | refine blk_drew ?_ | refine blk_alloc ?_ _)); exact BK227.out) hb); have n2_ := Aside0.mk (below_step (by repeat (first | (with_reducible first | exact HB.out | apply below_alloc | apply pw_below_drewN | apply below_drew1 | refine below_set ?_ GE220.out | refine below_set ?_ GE227.out) | exact HB.out)) hb); clear BK220; clear BK227; clear HB; have BK220 := n0_; have BK227 := n1_; have HB := n2_; clear n0_ n1_ n2_; (try clear hb); (try clear hb2); (try clear hk); (try clear hi)))
        go_meet
        case rel => exact ⟨_, (!t228), (by first | rfl | (simp; done) | (simp [*]; done)), H', ⟨by first | omega | exact Nat.le_refl _⟩, ⟨by (with_reducible repeat (first | refine blk_drewN ?_ _ | refine blk_drew ?_ | refine blk_alloc ?_ _)); exact BK220.out⟩, ⟨by (with_reducible repeat (first | refine blk_drewN ?_ _ | refine blk_drew ?_ | refine blk_alloc ?_ _)); exact BK227.out⟩, ⟨by repeat (first | (with_reducible first | exact HB.out | apply below_alloc | apply pw_below_drewN | apply below_drew1 | refine below_set ?_ GE220.out | refine below_set ?_ GE227.out) | exact HB.out)⟩⟩
      · rw [if_neg c15] at H
        have c15b0 : (t226 == 0) = false := beq_eq_false_iff_ne.mpr c15
        have c15b1 : (t226 != 0) = true := bne_iff_ne.mpr c15
        have H' := Aside0.mk H
        clear H
        go_wp2
        go_meet
        case rel => exact ⟨_, (true), (by first | rfl | (simp; done) | (simp [*]; done)), H', ⟨by first | omega | exact Nat.le_refl _⟩, ⟨by (with_reducible repeat (first | refine blk_drewN ?_ _ | refine blk_drew ?_ | refine blk_alloc ?_ _)); refine blk_far ?_ NB220_227.out _; (with_reducible repeat (first | refine blk_drewN ?_ _ | refine blk_drew ?_ | refine blk_alloc ?_ _)); refine blk_far ?_ NB220_227.out _; (with_reducible repeat (first | refine blk_drewN ?_ _ | refine blk_drew ?_ | refine blk_alloc ?_ _)); exact BK220.out⟩, ⟨by (with_reducible repeat (first | refine blk_drewN ?_ _ | refine blk_drew ?_ | refine blk_alloc ?_ _)); refine blk_put (cs := #[.int .i64 t224, .int .i64 0]) ?_ 1 _ rfl; (with_reducible repeat (first | refine blk_drewN ?_ _ | refine blk_drew ?_ | refine blk_alloc ?_ _)); refine blk_put (cs := #[.int .i64 0, .int .i64 0]) ?_ 0 _ rfl; (with_reducible repeat (first | refine blk_drewN ?_ _ | refine blk_drew ?_ | refine blk_alloc ?_ _)); exact BK227.out⟩, ⟨by repeat (first | (with_reducible first | exact HB.out | apply below_alloc | apply pw_below_drewN | apply below_drew1 | refine below_set ?_ GE220.out | refine below_set ?_ GE227.out) | exact HB.out)⟩⟩
    · rw [if_neg c14] at H
      have c14b0 : (t223 == 0) = false := beq_eq_false_iff_ne.mpr c14
      have c14b1 : (t223 != 0) = true := bne_iff_ne.mpr c14
      (first | rw [c14b0] | (simp only [i64_w, i32_w]; rw [c14b0]) | skip)
      have H' := Aside0.mk H
      clear H
      go_wp2
      go_meet
      case rel => exact ⟨_, (true), (by first | rfl | (simp; done) | (simp [*]; done)), H', ⟨by first | omega | exact Nat.le_refl _⟩, ⟨by (with_reducible repeat (first | refine blk_drewN ?_ _ | refine blk_drew ?_ | refine blk_alloc ?_ _)); refine blk_far ?_ NB220_227.out _; (with_reducible repeat (first | refine blk_drewN ?_ _ | refine blk_drew ?_ | refine blk_alloc ?_ _)); refine blk_far ?_ NB220_227.out _; (with_reducible repeat (first | refine blk_drewN ?_ _ | refine blk_drew ?_ | refine blk_alloc ?_ _)); exact BK220.out⟩, ⟨by (with_reducible repeat (first | refine blk_drewN ?_ _ | refine blk_drew ?_ | refine blk_alloc ?_ _)); refine blk_put (cs := #[.int .i64 t224, .int .i64 0]) ?_ 1 _ rfl; (with_reducible repeat (first | refine blk_drewN ?_ _ | refine blk_drew ?_ | refine blk_alloc ?_ _)); refine blk_put (cs := #[.int .i64 0, .int .i64 0]) ?_ 0 _ rfl; (with_reducible repeat (first | refine blk_drewN ?_ _ | refine blk_drew ?_ | refine blk_alloc ?_ _)); exact BK227.out⟩, ⟨by repeat (first | (with_reducible first | exact HB.out | apply below_alloc | apply pw_below_drewN | apply below_drew1 | refine below_set ?_ GE220.out | refine below_set ?_ GE227.out) | exact HB.out)⟩⟩
  case rest =>
    clear HC7
    try clear c1
    try clear p2
    try clear c4
    try clear p6
    try clear c8
    try clear c9
    try clear c11
    try clear c12
    try clear c14
    try clear c14b0
    try clear c14b1
    try clear c15
    try clear c15b0
    try clear c15b1
    try clear c17
    try clear hcz13_0
    try clear hcz13_1
    try clear hcz18_0
    try clear hcz18_1
    try clear hcz18_2
    try clear hcz18_3
    try clear hcz19_0
    try clear hcz19_1
    try clear hcz9_0
    try clear hcz9_1
    try clear hcz9_2
    try clear hcz9_3
    try clear hfz13_0
    try clear hfz13_1
    try clear hfz18_0
    try clear hfz18_1
    try clear hfz18_2
    try clear hfz18_3
    try clear hfz19_0
    try clear hfz19_1
    try clear hfz9_0
    try clear hfz9_1
    try clear hfz9_2
    try clear hfz9_3
    obtain ⟨kq, x40_6, rfl, HA, HJ6, BK220, BK227, HB⟩ := hcut
    cases kq with
    | zero => exact absurd HA.out (by simp [awardingbodylaw41_SignatureHolds.j0])
    | succ kj6 =>
      have H := HA.out
      clear HA
      simp only [awardingbodylaw41_SignatureHolds.j0] at H
      by_cases c21 : x40_6 = true
      · subst c21
        have H1 : (some false) = some r := by rw [if_pos rfl] at H; exact H
        clear H
        have H := H1
        clear H1
        obtain rfl := Option.some.inj H
        go_wp2
        go_ret
        exact ⟨by first | rfl | (simp [errW_none, errW_some] <;> rfl) | (simp [*, errW_none, errW_some] <;> rfl), by repeat (first | (with_reducible first | exact HB.out | apply below_alloc | apply pw_below_drewN | apply below_drew1 | refine below_set ?_ GE220.out | refine below_set ?_ GE227.out) | exact HB.out)⟩
      · replace c21 := Bool.eq_false_iff.mpr c21
        subst c21
        have H1 : ((awardingbodymark_Mod.f a2 1073741788).bind fun t230 => ((signature_Verify.f kj6 t222 a1_0 a1_1 a1_2 a1_3 t224 (Int.tmod (wrap64 ((wrap64 (t225 + 1)) + t230)) 1073741789)).bind fun t232 => (if t232 = true then (some false) else ((signature_Verify.f kj6 t222 a1_0 a1_1 a1_2 a1_3 t224 (wrap64 (t225 + 1073741789))).bind fun t233 => (if t233 = true then (some false) else ((awardingbodylaw41_sane.f kj6).bind fun t234 => (some t234))))))) = some r := by rw [if_neg (show ¬ (false = true) by decide)] at H; exact H
        clear H
        have H := H1
        clear H1
        replace H := Option.bind_eq_some_iff.mp H
        obtain ⟨t230, A220, H⟩ := H
        replace H : ((signature_Verify.f kj6 t222 a1_0 a1_1 a1_2 a1_3 t224 (Int.tmod (wrap64 ((wrap64 (t225 + 1)) + t230)) 1073741789)).bind fun t232 => (if t232 = true then (some false) else ((signature_Verify.f kj6 t222 a1_0 a1_1 a1_2 a1_3 t224 (wrap64 (t225 + 1073741789))).bind fun t233 => (if t233 = true then (some false) else ((awardingbodylaw41_sane.f kj6).bind fun t234 => (some t234)))))) = some r := H
        have A22 := Aside0.mk A220
        clear A220
        replace H := Option.bind_eq_some_iff.mp H
        obtain ⟨t232, A230, H⟩ := H
        replace H : (if t232 = true then (some false) else ((signature_Verify.f kj6 t222 a1_0 a1_1 a1_2 a1_3 t224 (wrap64 (t225 + 1073741789))).bind fun t233 => (if t233 = true then (some false) else ((awardingbodylaw41_sane.f kj6).bind fun t234 => (some t234))))) = some r := H
        have A23 := Aside0.mk A230
        clear A230
        by_cases c24 : t232 = true
        · subst c24
          have H1 : (some false) = some r := by rw [if_pos rfl] at H; exact H
          clear H
          have H := H1
          clear H1
          obtain rfl := Option.some.inj H
          have hnb25 := NB227_220.out
          have hnc25 := NB220_227.out
          have hcz26_0 : wc.cell? ⟨gb227, 0, none⟩ = some (.int .i64 t224) := (blk_cell BK227.out 0).trans rfl
          have hcz26_1 : wc.cell? ⟨gb227, 1, none⟩ = some (.int .i64 t225) := (blk_cell BK227.out 1).trans rfl
          have hfz26_0 := blk_frozen BK227.out 0
          have hfz26_1 := blk_frozen BK227.out 1
          try go_wp2_with (first | ((with_reducible refine gate_dst (N := 12) rfl ?_); refine box_event ?hg (N := 12) ?hd (cs := #[.int .i64 0, .int .i64 0]) (t := 26) ?hr ?_; (case hd => rfl); (case hg => rfl); (case hr => first | (go_simp; done) | (go_simp; rfl)); intro gb229 hg w27 hbox hb; have n0_ := Aside0.mk (blk_below (g := gb220) (o := .cells #[.int .u32 a1_0, .int .u32 a1_1, .int .u32 a1_2, .int .u32 a1_3] 24 (0, 0)) (by (with_reducible repeat (first | refine blk_drewN ?_ _ | refine blk_drew ?_ | refine blk_alloc ?_ _)); exact BK220.out) hb); have n1_ := Aside0.mk (blk_below (g := gb227) (o := .cells #[.int .i64 t224, .int .i64 t225] 26 (0, 0)) (by (with_reducible repeat (first | refine blk_drewN ?_ _ | refine blk_drew ?_ | refine blk_alloc ?_ _)); exact BK227.out) hb); have n2_ := Aside0.mk (below_step (by repeat (first | (with_reducible first | exact HB.out | apply below_alloc | apply pw_below_drewN | apply below_drew1 | refine below_set ?_ GE220.out | refine below_set ?_ GE227.out) | exact HB.out)) hb); have n3_ := Aside0.mk (hbox); have n4_ := Aside0.mk ((by rw [hg]; exact (below_size (by repeat (first | (with_reducible first | exact HB.out | apply below_alloc | apply pw_below_drewN | apply below_drew1 | refine below_set ?_ GE220.out | refine below_set ?_ GE227.out) | exact HB.out))) : w.heap.size ≤ gb229)); have n5_ := Aside0.mk ((by rw [hg]; exact (below_size (by repeat (first | (with_reducible first | exact HB.out | apply below_alloc | apply pw_below_drewN | apply below_drew1 | refine below_set ?_ GE220.out | refine below_set ?_ GE227.out) | exact HB.out))) : w.heap.size ≤ gb229)); have n6_ := Aside0.mk ((by rw [hg]; exact Nat.ne_of_lt (blk_lt (g := gb220) (o := .cells #[.int .u32 a1_0, .int .u32 a1_1, .int .u32 a1_2, .int .u32 a1_3] 24 (0, 0)) (by (with_reducible repeat (first | refine blk_drewN ?_ _ | refine blk_drew ?_ | refine blk_alloc ?_ _)); exact BK220.out)) : gb220 ≠ gb229)); have n7_ := Aside0.mk ((by rw [hg]; exact Nat.ne_of_gt (blk_lt (g := gb220) (o := .cells #[.int .u32 a1_0, .int .u32 a1_1, .int .u32 a1_2, .int .u32 a1_3] 24 (0, 0)) (by (with_reducible repeat (first | refine blk_drewN ?_ _ | refine blk_drew ?_ | refine blk_alloc ?_ _)); exact BK220.out)) : gb229 ≠ gb220)); have n8_ := Aside0.mk ((by rw [hg]; exact Nat.ne_of_lt (blk_lt (g := gb227) (o := .cells #[.int .i64 t224, .int .i64 t225] 26 (0, 0)) (by (with_reducible repeat (first | refine blk_drewN ?_ _ | refine blk_drew ?_ | refine blk_alloc ?_ _)); exact BK227.out)) : gb227 ≠ gb229)); have n9_ := Aside0.mk ((by rw [hg]; exact Nat.ne_of_gt (blk_lt (g := gb227) (o := .cells #[.int .i64 t224, .int .i64 t225] 26 (0, 0)) (by (with_reducible repeat (first | refine blk_drewN ?_ _ | refine blk_drew ?_ | refine blk_alloc ?_ _)); exact BK227.out)) : gb229 ≠ gb227)); clear BK220; clear BK227; clear HB; have BK220 := n0_; have BK227 := n1_; have HB := n2_; have BK229 := n3_; have GW229 := n4_; have GE229 := n5_; have NB220_229 := n6_; have NB229_220 := n7_; have NB227_229 := n8_; have NB229_227 := n9_; clear n0_ n1_ n2_ n3_ n4_ n5_ n6_ n7_ n8_ n9_; clear hb hbox hg; have hnb28 := NB229_220.out; have hnc28 := NB220_229.out; have hnb29 := NB229_227.out; have hnc29 := NB227_229.out; have hcz30_0 : w27.cell? ⟨gb229, 0, none⟩ = some (.int .i64 0) := (blk_cell BK229.out 0).trans rfl; have hcz30_1 : w27.cell? ⟨gb229, 1, none⟩ = some (.int .i64 0) := (blk_cell BK229.out 1).trans rfl; have hfz30_0 := blk_frozen BK229.out 0; have hfz30_1 := blk_frozen BK229.out 1))
          have n0_ : Aside0 (((w27.setCell ⟨gb229, 0, none⟩ (.int .i64 t224)).setCell ⟨gb229, 1, none⟩ (.int .i64 t225)).heap[gb220]? = some (.cells #[.int .u32 a1_0, .int .u32 a1_1, .int .u32 a1_2, .int .u32 a1_3] 24 (0, 0))) := ⟨by (with_reducible repeat (first | refine blk_drewN ?_ _ | refine blk_drew ?_ | refine blk_alloc ?_ _)); refine blk_far ?_ NB220_229.out _; (with_reducible repeat (first | refine blk_drewN ?_ _ | refine blk_drew ?_ | refine blk_alloc ?_ _)); refine blk_far ?_ NB220_229.out _; (with_reducible repeat (first | refine blk_drewN ?_ _ | refine blk_drew ?_ | refine blk_alloc ?_ _)); exact BK220.out⟩
          have n1_ : Aside0 (((w27.setCell ⟨gb229, 0, none⟩ (.int .i64 t224)).setCell ⟨gb229, 1, none⟩ (.int .i64 t225)).heap[gb227]? = some (.cells #[.int .i64 t224, .int .i64 t225] 26 (0, 0))) := ⟨by (with_reducible repeat (first | refine blk_drewN ?_ _ | refine blk_drew ?_ | refine blk_alloc ?_ _)); refine blk_far ?_ NB227_229.out _; (with_reducible repeat (first | refine blk_drewN ?_ _ | refine blk_drew ?_ | refine blk_alloc ?_ _)); refine blk_far ?_ NB227_229.out _; (with_reducible repeat (first | refine blk_drewN ?_ _ | refine blk_drew ?_ | refine blk_alloc ?_ _)); exact BK227.out⟩
          have n2_ : Aside0 (((w27.setCell ⟨gb229, 0, none⟩ (.int .i64 t224)).setCell ⟨gb229, 1, none⟩ (.int .i64 t225)).heap[gb229]? = some (.cells #[.int .i64 t224, .int .i64 t225] 26 (0, 0))) := ⟨by (with_reducible repeat (first | refine blk_drewN ?_ _ | refine blk_drew ?_ | refine blk_alloc ?_ _)); refine blk_put (cs := #[.int .i64 t224, .int .i64 0]) ?_ 1 _ rfl; (with_reducible repeat (first | refine blk_drewN ?_ _ | refine blk_drew ?_ | refine blk_alloc ?_ _)); refine blk_put (cs := #[.int .i64 0, .int .i64 0]) ?_ 0 _ rfl; (with_reducible repeat (first | refine blk_drewN ?_ _ | refine blk_drew ?_ | refine blk_alloc ?_ _)); exact BK229.out⟩
          have n3_ : Aside0 (Below w.heap.size w ((w27.setCell ⟨gb229, 0, none⟩ (.int .i64 t224)).setCell ⟨gb229, 1, none⟩ (.int .i64 t225))) := ⟨by repeat (first | (with_reducible first | exact HB.out | apply below_alloc | apply pw_below_drewN | apply below_drew1 | refine below_set ?_ GE220.out | refine below_set ?_ GE227.out | refine below_set ?_ GE229.out) | exact HB.out)⟩
          (try clear BK220)
          (try clear BK227)
          (try clear BK229)
          (try clear HB)
          generalize ((w27.setCell ⟨gb229, 0, none⟩ (.int .i64 t224)).setCell ⟨gb229, 1, none⟩ (.int .i64 t225)) = w31 at n0_ n1_ n2_ n3_ ⊢
          have BK220 := n0_
          have BK227 := n1_
          have BK229 := n2_
          have HB := n3_
          clear n0_ n1_ n2_ n3_
          have n0_ := Aside0.mk (blk_drew BK220.out)
          have n1_ := Aside0.mk (blk_drew BK227.out)
          have n2_ := Aside0.mk (blk_drew BK229.out)
          have n3_ := Aside0.mk (below_drew1 HB.out)
          clear BK220
          clear BK227
          clear BK229
          clear HB
          have BK220 := n0_
          have BK227 := n1_
          have BK229 := n2_
          have HB := n3_
          clear n0_ n1_ n2_ n3_
          refine start_ (n := 9) (S := fun w' => w'.cell? ⟨gb227, 0, none⟩ = some (.int .i64 t224) ∧ w'.cell? ⟨gb227, 1, none⟩ = some (.int .i64 t225)) (ds := []) #[false, false, false, false, false, false, false, false, false] (by kernel_rfl) rfl rfl ⟨(blk_cell BK227.out 0).trans rfl, (blk_cell BK227.out 1).trans rfl⟩ (fun hHeld => ?_); refine with_tabW awardingbodylaw41_SignatureHolds.tab7 awardingbodylaw41_SignatureHolds.bits7 (fun HT_ HW_ => ?_)
          generalize w31.drew = w32 at BK220 BK227 BK229 HB hHeld ⊢
          refine pure_ (i := 0) (N := some 42) (v := ?_) (a' := ?_) #[true, false, false, false, false, false, false, false, false] rfl rfl (any_of HT_.out (by kernel_rfl)) (fun _ _ _ h => h) (Or.inl ⟨by rfl, ?_⟩) ?_ ?_
          rotate_left
          · intro w'
            go_simp
            with_reducible rfl
          rotate_left
          · simp only [Act.put, List.setIfInBounds_toArray, List.set_cons_zero, List.set_cons_succ, i64_w, i32_w]
            rfl
          refine pure_ (i := 3) (N := some 45) (v := ?_) (a' := ?_) #[true, false, false, true, false, false, false, false, false] rfl rfl (any_of HT_.out (by kernel_rfl)) (fun _ _ _ h => h) (Or.inl ⟨by rfl, ?_⟩) ?_ ?_
          rotate_left
          · intro w'
            go_simp
            with_reducible rfl
          rotate_left
          · simp only [Act.put, List.setIfInBounds_toArray, List.set_cons_zero, List.set_cons_succ, i64_w, i32_w]
            rfl
          refine take_ (i := 1) (N := some 43) (v := ?_) (a' := ?_) #[true, true, false, true, false, false, false, false, false] rfl rfl (take_ofW HT_.out HW_.out (by kernel_rfl)) (fun _ _ _ h => h) (Or.inl ⟨by rfl, ?_⟩) hHeld ?_ ?_
          rotate_left
          · rintro w' ⟨s0, s1⟩
            go_simp
            with_reducible rfl
          rotate_left
          · simp only [Act.put, List.setIfInBounds_toArray, List.set_cons_zero, List.set_cons_succ, i64_w, i32_w]
            rfl
          refine pure_ (i := 2) (N := some 44) (v := ?_) (a' := ?_) #[true, true, true, true, false, false, false, false, false] rfl rfl (any_of HT_.out (by kernel_rfl)) (fun _ _ _ h => h) (Or.inl ⟨by rfl, ?_⟩) ?_ ?_
          rotate_left
          · intro w'
            go_simp
            with_reducible rfl
          rotate_left
          · simp only [Act.put, List.setIfInBounds_toArray, List.set_cons_zero, List.set_cons_succ, i64_w, i32_w]
            rfl
          refine one_ (i := 4) (N := some 46) #[true, true, true, true, true, false, false, false, false] rfl rfl (one_of HT_.out (by kernel_rfl)) (by decide) (fun K hK => ?_)
          refine goes_ Try.func8 (by kernel_rfl) rfl #[.int .i64 a2, .int .i64 1073741788] (by rfl) rfl rfl (by (try simp only [List.map_toArray, List.map_cons, List.map_nil]); first | done | rfl | (simp only [List.length_drop, List.length_take]; rfl)) ?_
          with_reducible refine (awardingbodymark_Mod.calls a2 1073741788 t230 _ A22.out).mono ?_
          rintro e w' ⟨rfl, ⟨nd, rfl⟩⟩
          refine ⟨_, rfl, ?_⟩
          refine hK.out _ _ ⟨(blk_cell BK227.out 0).trans rfl, (blk_cell BK227.out 1).trans rfl⟩ (fun hHeld => ?_)
          clear hK K
          refine norm_ (a' := ?_) ?_ ?_
          rotate_left
          · show Act.put _ (some 46) _ = _
            simp only [Act.put, List.setIfInBounds_toArray, List.set_cons_zero, List.set_cons_succ, i64_w, i32_w]
            rfl
          refine pure_ (i := 5) (N := some 47) (v := ?_) (a' := ?_) #[true, true, true, true, true, true, false, false, false] rfl rfl (any_of HT_.out (by kernel_rfl)) (fun _ _ _ h => h) (Or.inl ⟨by rfl, ?_⟩) ?_ ?_
          rotate_left
          · intro w'
            go_simp
            with_reducible rfl
          rotate_left
          · simp only [Act.put, List.setIfInBounds_toArray, List.set_cons_zero, List.set_cons_succ, i64_w, i32_w]
            rfl
          refine pure_ (i := 6) (N := some 48) (v := ?_) (a' := ?_) #[true, true, true, true, true, true, true, false, false] rfl rfl (any_of HT_.out (by kernel_rfl)) (fun _ _ _ h => h) (Or.inl ⟨by rfl, ?_⟩) ?_ ?_
          rotate_left
          · intro w'
            go_simp
            with_reducible rfl
          rotate_left
          · simp only [Act.put, List.setIfInBounds_toArray, List.set_cons_zero, List.set_cons_succ, i64_w, i32_w]
            rfl
          refine pure_ (i := 7) (N := some 49) (v := ?_) (a' := ?_) #[true, true, true, true, true, true, true, true, false] rfl rfl (any_of HT_.out (by kernel_rfl)) (fun _ _ _ h => h) (Or.inl ⟨by rfl, ?_⟩) ?_ ?_
          rotate_left
          · intro w'
            go_simp
            with_reducible rfl
          rotate_left
          · simp only [Act.put, List.setIfInBounds_toArray, List.set_cons_zero, List.set_cons_succ, i64_w, i32_w]
            rfl
          refine one_ (i := 8) (N := none) #[true, true, true, true, true, true, true, true, true] rfl rfl (one_of HT_.out (by kernel_rfl)) (by decide) (fun K hK => ?_)
          have hs33 : w32.cell? ⟨gb229, 1, none⟩ = some (.int .i64 t225) := (blk_cell BK229.out 1).trans rfl
          have hfs33 := blk_frozen BK229.out 1
          have hns33_0 := NB220_229.out
          have hns33_1 := NB227_229.out
          have hms33_0 := NB229_220.out
          have hms33_1 := NB229_227.out
          refine skip_ (w1 := ?_) (by rfl) rfl ?_ ?_
          rotate_left
          · go_simp
            rfl
          refine hK.out _ _ ⟨((cell_far (p := ⟨gb229, _, none⟩) NB227_229.out _).trans (hHeld.1)), ((cell_far (p := ⟨gb229, _, none⟩) NB227_229.out _).trans (hHeld.2))⟩ (fun hHeld => ?_)
          clear hK K
          refine done_ (done_of HT_.out (by kernel_rfl)) ?_
          have hcz34_0 : w32.cell? ⟨gb227, 0, none⟩ = some (.int .i64 t224) := (blk_cell BK227.out 0).trans rfl
          have hcz34_1 : w32.cell? ⟨gb227, 1, none⟩ = some (.int .i64 t225) := (blk_cell BK227.out 1).trans rfl
          have hfz34_0 := blk_frozen BK227.out 0
          have hfz34_1 := blk_frozen BK227.out 1
          try go_wp2_with (first | ((with_reducible refine gate_dst (N := 13) rfl ?_); refine box_event ?hg (N := 13) ?hd (cs := #[.int .i64 0, .int .i64 0]) (t := 26) ?hr ?_; (case hd => rfl); (case hg => rfl); (case hr => first | (go_simp; done) | (go_simp; rfl)); intro gb231 hg w35 hbox hb; have n0_ := Aside0.mk (blk_below (g := gb220) (o := .cells #[.int .u32 a1_0, .int .u32 a1_1, .int .u32 a1_2, .int .u32 a1_3] 24 (0, 0)) (by (with_reducible repeat (first | refine blk_drewN ?_ _ | refine blk_drew ?_ | refine blk_alloc ?_ _)); refine blk_far ?_ NB220_229.out _; (with_reducible repeat (first | refine blk_drewN ?_ _ | refine blk_drew ?_ | refine blk_alloc ?_ _)); exact BK220.out) hb); have n1_ := Aside0.mk (blk_below (g := gb227) (o := .cells #[.int .i64 t224, .int .i64 t225] 26 (0, 0)) (by (with_reducible repeat (first | refine blk_drewN ?_ _ | refine blk_drew ?_ | refine blk_alloc ?_ _)); refine blk_far ?_ NB227_229.out _; (with_reducible repeat (first | refine blk_drewN ?_ _ | refine blk_drew ?_ | refine blk_alloc ?_ _)); exact BK227.out) hb); have n2_ := Aside0.mk (blk_below (g := gb229) (o := .cells #[.int .i64 t224, .int .i64 (Int.tmod (wrap64 ((wrap64 (t225 + 1)) + t230)) 1073741789)] 26 (0, 0)) (by (with_reducible repeat (first | refine blk_drewN ?_ _ | refine blk_drew ?_ | refine blk_alloc ?_ _)); refine blk_put (cs := #[.int .i64 t224, .int .i64 t225]) ?_ 1 _ rfl; (with_reducible repeat (first | refine blk_drewN ?_ _ | refine blk_drew ?_ | refine blk_alloc ?_ _)); exact BK229.out) hb); have n3_ := Aside0.mk (below_step (by repeat (first | (with_reducible first | exact HB.out | apply below_alloc | apply pw_below_drewN | apply below_drew1 | refine below_set ?_ GE220.out | refine below_set ?_ GE227.out | refine below_set ?_ GE229.out) | exact HB.out)) hb); have n4_ := Aside0.mk (hbox); have n5_ := Aside0.mk ((by rw [hg]; exact (below_size (by repeat (first | (with_reducible first | exact HB.out | apply below_alloc | apply pw_below_drewN | apply below_drew1 | refine below_set ?_ GE220.out | refine below_set ?_ GE227.out | refine below_set ?_ GE229.out) | exact HB.out))) : w.heap.size ≤ gb231)); have n6_ := Aside0.mk ((by rw [hg]; exact (below_size (by repeat (first | (with_reducible first | exact HB.out | apply below_alloc | apply pw_below_drewN | apply below_drew1 | refine below_set ?_ GE220.out | refine below_set ?_ GE227.out | refine below_set ?_ GE229.out) | exact HB.out))) : w.heap.size ≤ gb231)); have n7_ := Aside0.mk ((by rw [hg]; exact Nat.ne_of_lt (blk_lt (g := gb220) (o := .cells #[.int .u32 a1_0, .int .u32 a1_1, .int .u32 a1_2, .int .u32 a1_3] 24 (0, 0)) (by (with_reducible repeat (first | refine blk_drewN ?_ _ | refine blk_drew ?_ | refine blk_alloc ?_ _)); refine blk_far ?_ NB220_229.out _; (with_reducible repeat (first | refine blk_drewN ?_ _ | refine blk_drew ?_ | refine blk_alloc ?_ _)); exact BK220.out)) : gb220 ≠ gb231)); have n8_ := Aside0.mk ((by rw [hg]; exact Nat.ne_of_gt (blk_lt (g := gb220) (o := .cells #[.int .u32 a1_0, .int .u32 a1_1, .int .u32 a1_2, .int .u32 a1_3] 24 (0, 0)) (by (with_reducible repeat (first | refine blk_drewN ?_ _ | refine blk_drew ?_ | refine blk_alloc ?_ _)); refine blk_far ?_ NB220_229.out _; (with_reducible repeat (first | refine blk_drewN ?_ _ | refine blk_drew ?_ | refine blk_alloc ?_ _)); exact BK220.out)) : gb231 ≠ gb220)); have n9_ := Aside0.mk ((by rw [hg]; exact Nat.ne_of_lt (blk_lt (g := gb227) (o := .cells #[.int .i64 t224, .int .i64 t225] 26 (0, 0)) (by (with_reducible repeat (first | refine blk_drewN ?_ _ | refine blk_drew ?_ | refine blk_alloc ?_ _)); refine blk_far ?_ NB227_229.out _; (with_reducible repeat (first | refine blk_drewN ?_ _ | refine blk_drew ?_ | refine blk_alloc ?_ _)); exact BK227.out)) : gb227 ≠ gb231)); have n10_ := Aside0.mk ((by rw [hg]; exact Nat.ne_of_gt (blk_lt (g := gb227) (o := .cells #[.int .i64 t224, .int .i64 t225] 26 (0, 0)) (by (with_reducible repeat (first | refine blk_drewN ?_ _ | refine blk_drew ?_ | refine blk_alloc ?_ _)); refine blk_far ?_ NB227_229.out _; (with_reducible repeat (first | refine blk_drewN ?_ _ | refine blk_drew ?_ | refine blk_alloc ?_ _)); exact BK227.out)) : gb231 ≠ gb227)); have n11_ := Aside0.mk ((by rw [hg]; exact Nat.ne_of_lt (blk_lt (g := gb229) (o := .cells #[.int .i64 t224, .int .i64 (Int.tmod (wrap64 ((wrap64 (t225 + 1)) + t230)) 1073741789)] 26 (0, 0)) (by (with_reducible repeat (first | refine blk_drewN ?_ _ | refine blk_drew ?_ | refine blk_alloc ?_ _)); refine blk_put (cs := #[.int .i64 t224, .int .i64 t225]) ?_ 1 _ rfl; (with_reducible repeat (first | refine blk_drewN ?_ _ | refine blk_drew ?_ | refine blk_alloc ?_ _)); exact BK229.out)) : gb229 ≠ gb231)); have n12_ := Aside0.mk ((by rw [hg]; exact Nat.ne_of_gt (blk_lt (g := gb229) (o := .cells #[.int .i64 t224, .int .i64 (Int.tmod (wrap64 ((wrap64 (t225 + 1)) + t230)) 1073741789)] 26 (0, 0)) (by (with_reducible repeat (first | refine blk_drewN ?_ _ | refine blk_drew ?_ | refine blk_alloc ?_ _)); refine blk_put (cs := #[.int .i64 t224, .int .i64 t225]) ?_ 1 _ rfl; (with_reducible repeat (first | refine blk_drewN ?_ _ | refine blk_drew ?_ | refine blk_alloc ?_ _)); exact BK229.out)) : gb231 ≠ gb229)); clear BK220; clear BK227; clear BK229; clear HB; have BK220 := n0_; have BK227 := n1_; have BK229 := n2_; have HB := n3_; have BK231 := n4_; have GW231 := n5_; have GE231 := n6_; have NB220_231 := n7_; have NB231_220 := n8_; have NB227_231 := n9_; have NB231_227 := n10_; have NB229_231 := n11_; have NB231_229 := n12_; clear n0_ n1_ n2_ n3_ n4_ n5_ n6_ n7_ n8_ n9_ n10_ n11_ n12_; clear hb hbox hg; have hnb36 := NB231_220.out; have hnc36 := NB220_231.out; have hnb37 := NB231_227.out; have hnc37 := NB227_231.out; have hnb38 := NB231_229.out; have hnc38 := NB229_231.out; have hcz39_0 : w35.cell? ⟨gb231, 0, none⟩ = some (.int .i64 0) := (blk_cell BK231.out 0).trans rfl; have hcz39_1 : w35.cell? ⟨gb231, 1, none⟩ = some (.int .i64 0) := (blk_cell BK231.out 1).trans rfl; have hfz39_0 := blk_frozen BK231.out 0; have hfz39_1 := blk_frozen BK231.out 1; have hcz40_0 : w35.cell? ⟨gb220, 0, none⟩ = some (.int .u32 a1_0) := (blk_cell BK220.out 0).trans rfl; have hcz40_1 : w35.cell? ⟨gb220, 1, none⟩ = some (.int .u32 a1_1) := (blk_cell BK220.out 1).trans rfl; have hcz40_2 : w35.cell? ⟨gb220, 2, none⟩ = some (.int .u32 a1_2) := (blk_cell BK220.out 2).trans rfl; have hcz40_3 : w35.cell? ⟨gb220, 3, none⟩ = some (.int .u32 a1_3) := (blk_cell BK220.out 3).trans rfl; have hfz40_0 := blk_frozen BK220.out 0; have hfz40_1 := blk_frozen BK220.out 1; have hfz40_2 := blk_frozen BK220.out 2; have hfz40_3 := blk_frozen BK220.out 3; have hcz41_0 : w35.cell? ⟨gb229, 0, none⟩ = some (.int .i64 t224) := (blk_cell BK229.out 0).trans rfl; have hcz41_1 : w35.cell? ⟨gb229, 1, none⟩ = some (.int .i64 (Int.tmod (wrap64 ((wrap64 (t225 + 1)) + t230)) 1073741789)) := (blk_cell BK229.out 1).trans rfl; have hfz41_0 := blk_frozen BK229.out 0; have hfz41_1 := blk_frozen BK229.out 1) | ((with_reducible refine gate_callee (f := 19) rfl ?_); refine goesL_ (some 58) rfl rfl Try.func19 (by kernel_rfl) rfl #[.int .i64 t222, .agg #[.int .u32 a1_0, .int .u32 a1_1, .int .u32 a1_2, .int .u32 a1_3], .agg #[.int .i64 t224, .int .i64 (Int.tmod (wrap64 ((wrap64 (t225 + 1)) + t230)) 1073741789)]] rfl (by (try simp only [List.map_toArray, List.map_cons, List.map_nil]); first | done | rfl | (simp only [List.length_drop, List.length_take]; rfl)) ?_; (with_reducible refine (signature_Verify.calls kj6 t222 a1_0 a1_1 a1_2 a1_3 t224 (Int.tmod (wrap64 ((wrap64 (t225 + 1)) + t230)) 1073741789) true _ A23.out).mono ?_); rintro e w42 ⟨rfl, hb⟩; refine ⟨_, rfl, ?_⟩; have n0_ := Aside0.mk (blk_below (g := gb220) (o := .cells #[.int .u32 a1_0, .int .u32 a1_1, .int .u32 a1_2, .int .u32 a1_3] 24 (0, 0)) (by (with_reducible repeat (first | refine blk_drewN ?_ _ | refine blk_drew ?_ | refine blk_alloc ?_ _)); refine blk_far ?_ NB220_231.out _; (with_reducible repeat (first | refine blk_drewN ?_ _ | refine blk_drew ?_ | refine blk_alloc ?_ _)); refine blk_far ?_ NB220_231.out _; (with_reducible repeat (first | refine blk_drewN ?_ _ | refine blk_drew ?_ | refine blk_alloc ?_ _)); refine blk_far ?_ NB220_231.out _; (with_reducible repeat (first | refine blk_drewN ?_ _ | refine blk_drew ?_ | refine blk_alloc ?_ _)); exact BK220.out) hb); have n1_ := Aside0.mk (blk_below (g := gb227) (o := .cells #[.int .i64 t224, .int .i64 t225] 26 (0, 0)) (by (with_reducible repeat (first | refine blk_drewN ?_ _ | refine blk_drew ?_ | refine blk_alloc ?_ _)); refine blk_far ?_ NB227_231.out _; (with_reducible repeat (first | refine blk_drewN ?_ _ | refine blk_drew ?_ | refine blk_alloc ?_ _)); refine blk_far ?_ NB227_231.out _; (with_reducible repeat (first | refine blk_drewN ?_ _ | refine blk_drew ?_ | refine blk_alloc ?_ _)); refine blk_far ?_ NB227_231.out _; (with_reducible repeat (first | refine blk_drewN ?_ _ | refine blk_drew ?_ | refine blk_alloc ?_ _)); exact BK227.out) hb); have n2_ := Aside0.mk (blk_below (g := gb229) (o := .cells #[.int .i64 t224, .int .i64 (Int.tmod (wrap64 ((wrap64 (t225 + 1)) + t230)) 1073741789)] 26 (0, 0)) (by (with_reducible repeat (first | refine blk_drewN ?_ _ | refine blk_drew ?_ | refine blk_alloc ?_ _)); refine blk_far ?_ NB229_231.out _; (with_reducible repeat (first | refine blk_drewN ?_ _ | refine blk_drew ?_ | refine blk_alloc ?_ _)); refine blk_far ?_ NB229_231.out _; (with_reducible repeat (first | refine blk_drewN ?_ _ | refine blk_drew ?_ | refine blk_alloc ?_ _)); refine blk_far ?_ NB229_231.out _; (with_reducible repeat (first | refine blk_drewN ?_ _ | refine blk_drew ?_ | refine blk_alloc ?_ _)); exact BK229.out) hb); have n3_ := Aside0.mk (blk_below (g := gb231) (o := .cells #[.int .i64 t224, .int .i64 (wrap64 (t225 + 1073741789))] 26 (0, 0)) (by (with_reducible repeat (first | refine blk_drewN ?_ _ | refine blk_drew ?_ | refine blk_alloc ?_ _)); refine blk_put (cs := #[.int .i64 t224, .int .i64 t225]) ?_ 1 _ rfl; (with_reducible repeat (first | refine blk_drewN ?_ _ | refine blk_drew ?_ | refine blk_alloc ?_ _)); refine blk_put (cs := #[.int .i64 t224, .int .i64 0]) ?_ 1 _ rfl; (with_reducible repeat (first | refine blk_drewN ?_ _ | refine blk_drew ?_ | refine blk_alloc ?_ _)); refine blk_put (cs := #[.int .i64 0, .int .i64 0]) ?_ 0 _ rfl; (with_reducible repeat (first | refine blk_drewN ?_ _ | refine blk_drew ?_ | refine blk_alloc ?_ _)); exact BK231.out) hb); have n4_ := Aside0.mk (below_step (by repeat (first | (with_reducible first | exact HB.out | apply below_alloc | apply pw_below_drewN | apply below_drew1 | refine below_set ?_ GE220.out | refine below_set ?_ GE227.out | refine below_set ?_ GE229.out | refine below_set ?_ GE231.out) | exact HB.out)) hb); clear BK220; clear BK227; clear BK229; clear BK231; clear HB; have BK220 := n0_; have BK227 := n1_; have BK229 := n2_; have BK231 := n3_; have HB := n4_; clear n0_ n1_ n2_ n3_ n4_; (try clear hb); (try clear hb2); (try clear hk); (try clear hi)))
          go_ret
          exact ⟨by first | rfl | (simp [errW_none, errW_some] <;> rfl) | (simp [*, errW_none, errW_some] <;> rfl), by repeat (first | (with_reducible first | exact HB.out | apply below_alloc | apply pw_below_drewN | apply below_drew1 | refine below_set ?_ GE220.out | refine below_set ?_ GE227.out | refine below_set ?_ GE229.out | refine below_set ?_ GE231.out) | exact HB.out)⟩
        · replace c24 := Bool.eq_false_iff.mpr c24
          subst c24
          have H1 : ((signature_Verify.f kj6 t222 a1_0 a1_1 a1_2 a1_3 t224 (wrap64 (t225 + 1073741789))).bind fun t233 => (if t233 = true then (some false) else ((awardingbodylaw41_sane.f kj6).bind fun t234 => (some t234)))) = some r := by rw [if_neg (show ¬ (false = true) by decide)] at H; exact H
          clear H
          have H := H1
          clear H1
          replace H := Option.bind_eq_some_iff.mp H
          obtain ⟨t233, A430, H⟩ := H
          replace H : (if t233 = true then (some false) else ((awardingbodylaw41_sane.f kj6).bind fun t234 => (some t234))) = some r := H
          have A43 := Aside0.mk A430
          clear A430
          by_cases c44 : t233 = true
          · subst c44
            have H1 : (some false) = some r := by rw [if_pos rfl] at H; exact H
            clear H
            have H := H1
            clear H1
            obtain rfl := Option.some.inj H
            have hnb45 := NB227_220.out
            have hnc45 := NB220_227.out
            have hcz46_0 : wc.cell? ⟨gb227, 0, none⟩ = some (.int .i64 t224) := (blk_cell BK227.out 0).trans rfl
            have hcz46_1 : wc.cell? ⟨gb227, 1, none⟩ = some (.int .i64 t225) := (blk_cell BK227.out 1).trans rfl
            have hfz46_0 := blk_frozen BK227.out 0
            have hfz46_1 := blk_frozen BK227.out 1
            try go_wp2_with (first | ((with_reducible refine gate_dst (N := 12) rfl ?_); refine box_event ?hg (N := 12) ?hd (cs := #[.int .i64 0, .int .i64 0]) (t := 26) ?hr ?_; (case hd => rfl); (case hg => rfl); (case hr => first | (go_simp; done) | (go_simp; rfl)); intro gb229 hg w47 hbox hb; have n0_ := Aside0.mk (blk_below (g := gb220) (o := .cells #[.int .u32 a1_0, .int .u32 a1_1, .int .u32 a1_2, .int .u32 a1_3] 24 (0, 0)) (by (with_reducible repeat (first | refine blk_drewN ?_ _ | refine blk_drew ?_ | refine blk_alloc ?_ _)); exact BK220.out) hb); have n1_ := Aside0.mk (blk_below (g := gb227) (o := .cells #[.int .i64 t224, .int .i64 t225] 26 (0, 0)) (by (with_reducible repeat (first | refine blk_drewN ?_ _ | refine blk_drew ?_ | refine blk_alloc ?_ _)); exact BK227.out) hb); have n2_ := Aside0.mk (below_step (by repeat (first | (with_reducible first | exact HB.out | apply below_alloc | apply pw_below_drewN | apply below_drew1 | refine below_set ?_ GE220.out | refine below_set ?_ GE227.out) | exact HB.out)) hb); have n3_ := Aside0.mk (hbox); have n4_ := Aside0.mk ((by rw [hg]; exact (below_size (by repeat (first | (with_reducible first | exact HB.out | apply below_alloc | apply pw_below_drewN | apply below_drew1 | refine below_set ?_ GE220.out | refine below_set ?_ GE227.out) | exact HB.out))) : w.heap.size ≤ gb229)); have n5_ := Aside0.mk ((by rw [hg]; exact (below_size (by repeat (first | (with_reducible first | exact HB.out | apply below_alloc | apply pw_below_drewN | apply below_drew1 | refine below_set ?_ GE220.out | refine below_set ?_ GE227.out) | exact HB.out))) : w.heap.size ≤ gb229)); have n6_ := Aside0.mk ((by rw [hg]; exact Nat.ne_of_lt (blk_lt (g := gb220) (o := .cells #[.int .u32 a1_0, .int .u32 a1_1, .int .u32 a1_2, .int .u32 a1_3] 24 (0, 0)) (by (with_reducible repeat (first | refine blk_drewN ?_ _ | refine blk_drew ?_ | refine blk_alloc ?_ _)); exact BK220.out)) : gb220 ≠ gb229)); have n7_ := Aside0.mk ((by rw [hg]; exact Nat.ne_of_gt (blk_lt (g := gb220) (o := .cells #[.int .u32 a1_0, .int .u32 a1_1, .int .u32 a1_2, .int .u32 a1_3] 24 (0, 0)) (by (with_reducible repeat (first | refine blk_drewN ?_ _ | refine blk_drew ?_ | refine blk_alloc ?_ _)); exact BK220.out)) : gb229 ≠ gb220)); have n8_ := Aside0.mk ((by rw [hg]; exact Nat.ne_of_lt (blk_lt (g := gb227) (o := .cells #[.int .i64 t224, .int .i64 t225] 26 (0, 0)) (by (with_reducible repeat (first | refine blk_drewN ?_ _ | refine blk_drew ?_ | refine blk_alloc ?_ _)); exact BK227.out)) : gb227 ≠ gb229)); have n9_ := Aside0.mk ((by rw [hg]; exact Nat.ne_of_gt (blk_lt (g := gb227) (o := .cells #[.int .i64 t224, .int .i64 t225] 26 (0, 0)) (by (with_reducible repeat (first | refine blk_drewN ?_ _ | refine blk_drew ?_ | refine blk_alloc ?_ _)); exact BK227.out)) : gb229 ≠ gb227)); clear BK220; clear BK227; clear HB; have BK220 := n0_; have BK227 := n1_; have HB := n2_; have BK229 := n3_; have GW229 := n4_; have GE229 := n5_; have NB220_229 := n6_; have NB229_220 := n7_; have NB227_229 := n8_; have NB229_227 := n9_; clear n0_ n1_ n2_ n3_ n4_ n5_ n6_ n7_ n8_ n9_; clear hb hbox hg; have hnb48 := NB229_220.out; have hnc48 := NB220_229.out; have hnb49 := NB229_227.out; have hnc49 := NB227_229.out; have hcz50_0 : w47.cell? ⟨gb229, 0, none⟩ = some (.int .i64 0) := (blk_cell BK229.out 0).trans rfl; have hcz50_1 : w47.cell? ⟨gb229, 1, none⟩ = some (.int .i64 0) := (blk_cell BK229.out 1).trans rfl; have hfz50_0 := blk_frozen BK229.out 0; have hfz50_1 := blk_frozen BK229.out 1))
            have n0_ : Aside0 (((w47.setCell ⟨gb229, 0, none⟩ (.int .i64 t224)).setCell ⟨gb229, 1, none⟩ (.int .i64 t225)).heap[gb220]? = some (.cells #[.int .u32 a1_0, .int .u32 a1_1, .int .u32 a1_2, .int .u32 a1_3] 24 (0, 0))) := ⟨by (with_reducible repeat (first | refine blk_drewN ?_ _ | refine blk_drew ?_ | refine blk_alloc ?_ _)); refine blk_far ?_ NB220_229.out _; (with_reducible repeat (first | refine blk_drewN ?_ _ | refine blk_drew ?_ | refine blk_alloc ?_ _)); refine blk_far ?_ NB220_229.out _; (with_reducible repeat (first | refine blk_drewN ?_ _ | refine blk_drew ?_ | refine blk_alloc ?_ _)); exact BK220.out⟩
            have n1_ : Aside0 (((w47.setCell ⟨gb229, 0, none⟩ (.int .i64 t224)).setCell ⟨gb229, 1, none⟩ (.int .i64 t225)).heap[gb227]? = some (.cells #[.int .i64 t224, .int .i64 t225] 26 (0, 0))) := ⟨by (with_reducible repeat (first | refine blk_drewN ?_ _ | refine blk_drew ?_ | refine blk_alloc ?_ _)); refine blk_far ?_ NB227_229.out _; (with_reducible repeat (first | refine blk_drewN ?_ _ | refine blk_drew ?_ | refine blk_alloc ?_ _)); refine blk_far ?_ NB227_229.out _; (with_reducible repeat (first | refine blk_drewN ?_ _ | refine blk_drew ?_ | refine blk_alloc ?_ _)); exact BK227.out⟩
            have n2_ : Aside0 (((w47.setCell ⟨gb229, 0, none⟩ (.int .i64 t224)).setCell ⟨gb229, 1, none⟩ (.int .i64 t225)).heap[gb229]? = some (.cells #[.int .i64 t224, .int .i64 t225] 26 (0, 0))) := ⟨by (with_reducible repeat (first | refine blk_drewN ?_ _ | refine blk_drew ?_ | refine blk_alloc ?_ _)); refine blk_put (cs := #[.int .i64 t224, .int .i64 0]) ?_ 1 _ rfl; (with_reducible repeat (first | refine blk_drewN ?_ _ | refine blk_drew ?_ | refine blk_alloc ?_ _)); refine blk_put (cs := #[.int .i64 0, .int .i64 0]) ?_ 0 _ rfl; (with_reducible repeat (first | refine blk_drewN ?_ _ | refine blk_drew ?_ | refine blk_alloc ?_ _)); exact BK229.out⟩
            have n3_ : Aside0 (Below w.heap.size w ((w47.setCell ⟨gb229, 0, none⟩ (.int .i64 t224)).setCell ⟨gb229, 1, none⟩ (.int .i64 t225))) := ⟨by repeat (first | (with_reducible first | exact HB.out | apply below_alloc | apply pw_below_drewN | apply below_drew1 | refine below_set ?_ GE220.out | refine below_set ?_ GE227.out | refine below_set ?_ GE229.out) | exact HB.out)⟩
            (try clear BK220)
            (try clear BK227)
            (try clear BK229)
            (try clear HB)
            generalize ((w47.setCell ⟨gb229, 0, none⟩ (.int .i64 t224)).setCell ⟨gb229, 1, none⟩ (.int .i64 t225)) = w51 at n0_ n1_ n2_ n3_ ⊢
            have BK220 := n0_
            have BK227 := n1_
            have BK229 := n2_
            have HB := n3_
            clear n0_ n1_ n2_ n3_
            have n0_ := Aside0.mk (blk_drew BK220.out)
            have n1_ := Aside0.mk (blk_drew BK227.out)
            have n2_ := Aside0.mk (blk_drew BK229.out)
            have n3_ := Aside0.mk (below_drew1 HB.out)
            clear BK220
            clear BK227
            clear BK229
            clear HB
            have BK220 := n0_
            have BK227 := n1_
            have BK229 := n2_
            have HB := n3_
            clear n0_ n1_ n2_ n3_
            refine start_ (n := 9) (S := fun w' => w'.cell? ⟨gb227, 0, none⟩ = some (.int .i64 t224) ∧ w'.cell? ⟨gb227, 1, none⟩ = some (.int .i64 t225)) (ds := []) #[false, false, false, false, false, false, false, false, false] (by kernel_rfl) rfl rfl ⟨(blk_cell BK227.out 0).trans rfl, (blk_cell BK227.out 1).trans rfl⟩ (fun hHeld => ?_); refine with_tabW awardingbodylaw41_SignatureHolds.tab7 awardingbodylaw41_SignatureHolds.bits7 (fun HT_ HW_ => ?_)
            generalize w51.drew = w52 at BK220 BK227 BK229 HB hHeld ⊢
            refine pure_ (i := 0) (N := some 42) (v := ?_) (a' := ?_) #[true, false, false, false, false, false, false, false, false] rfl rfl (any_of HT_.out (by kernel_rfl)) (fun _ _ _ h => h) (Or.inl ⟨by rfl, ?_⟩) ?_ ?_
            rotate_left
            · intro w'
              go_simp
              with_reducible rfl
            rotate_left
            · simp only [Act.put, List.setIfInBounds_toArray, List.set_cons_zero, List.set_cons_succ, i64_w, i32_w]
              rfl
            refine pure_ (i := 3) (N := some 45) (v := ?_) (a' := ?_) #[true, false, false, true, false, false, false, false, false] rfl rfl (any_of HT_.out (by kernel_rfl)) (fun _ _ _ h => h) (Or.inl ⟨by rfl, ?_⟩) ?_ ?_
            rotate_left
            · intro w'
              go_simp
              with_reducible rfl
            rotate_left
            · simp only [Act.put, List.setIfInBounds_toArray, List.set_cons_zero, List.set_cons_succ, i64_w, i32_w]
              rfl
            refine take_ (i := 1) (N := some 43) (v := ?_) (a' := ?_) #[true, true, false, true, false, false, false, false, false] rfl rfl (take_ofW HT_.out HW_.out (by kernel_rfl)) (fun _ _ _ h => h) (Or.inl ⟨by rfl, ?_⟩) hHeld ?_ ?_
            rotate_left
            · rintro w' ⟨s0, s1⟩
              go_simp
              with_reducible rfl
            rotate_left
            · simp only [Act.put, List.setIfInBounds_toArray, List.set_cons_zero, List.set_cons_succ, i64_w, i32_w]
              rfl
            refine pure_ (i := 2) (N := some 44) (v := ?_) (a' := ?_) #[true, true, true, true, false, false, false, false, false] rfl rfl (any_of HT_.out (by kernel_rfl)) (fun _ _ _ h => h) (Or.inl ⟨by rfl, ?_⟩) ?_ ?_
            rotate_left
            · intro w'
              go_simp
              with_reducible rfl
            rotate_left
            · simp only [Act.put, List.setIfInBounds_toArray, List.set_cons_zero, List.set_cons_succ, i64_w, i32_w]
              rfl
            refine one_ (i := 4) (N := some 46) #[true, true, true, true, true, false, false, false, false] rfl rfl (one_of HT_.out (by kernel_rfl)) (by decide) (fun K hK => ?_)
            refine goes_ Try.func8 (by kernel_rfl) rfl #[.int .i64 a2, .int .i64 1073741788] (by rfl) rfl rfl (by (try simp only [List.map_toArray, List.map_cons, List.map_nil]); first | done | rfl | (simp only [List.length_drop, List.length_take]; rfl)) ?_
            with_reducible refine (awardingbodymark_Mod.calls a2 1073741788 t230 _ A22.out).mono ?_
            rintro e w' ⟨rfl, ⟨nd, rfl⟩⟩
            refine ⟨_, rfl, ?_⟩
            refine hK.out _ _ ⟨(blk_cell BK227.out 0).trans rfl, (blk_cell BK227.out 1).trans rfl⟩ (fun hHeld => ?_)
            clear hK K
            refine norm_ (a' := ?_) ?_ ?_
            rotate_left
            · show Act.put _ (some 46) _ = _
              simp only [Act.put, List.setIfInBounds_toArray, List.set_cons_zero, List.set_cons_succ, i64_w, i32_w]
              rfl
            refine pure_ (i := 5) (N := some 47) (v := ?_) (a' := ?_) #[true, true, true, true, true, true, false, false, false] rfl rfl (any_of HT_.out (by kernel_rfl)) (fun _ _ _ h => h) (Or.inl ⟨by rfl, ?_⟩) ?_ ?_
            rotate_left
            · intro w'
              go_simp
              with_reducible rfl
            rotate_left
            · simp only [Act.put, List.setIfInBounds_toArray, List.set_cons_zero, List.set_cons_succ, i64_w, i32_w]
              rfl
            refine pure_ (i := 6) (N := some 48) (v := ?_) (a' := ?_) #[true, true, true, true, true, true, true, false, false] rfl rfl (any_of HT_.out (by kernel_rfl)) (fun _ _ _ h => h) (Or.inl ⟨by rfl, ?_⟩) ?_ ?_
            rotate_left
            · intro w'
              go_simp
              with_reducible rfl
            rotate_left
            · simp only [Act.put, List.setIfInBounds_toArray, List.set_cons_zero, List.set_cons_succ, i64_w, i32_w]
              rfl
            refine pure_ (i := 7) (N := some 49) (v := ?_) (a' := ?_) #[true, true, true, true, true, true, true, true, false] rfl rfl (any_of HT_.out (by kernel_rfl)) (fun _ _ _ h => h) (Or.inl ⟨by rfl, ?_⟩) ?_ ?_
            rotate_left
            · intro w'
              go_simp
              with_reducible rfl
            rotate_left
            · simp only [Act.put, List.setIfInBounds_toArray, List.set_cons_zero, List.set_cons_succ, i64_w, i32_w]
              rfl
            refine one_ (i := 8) (N := none) #[true, true, true, true, true, true, true, true, true] rfl rfl (one_of HT_.out (by kernel_rfl)) (by decide) (fun K hK => ?_)
            have hs53 : w52.cell? ⟨gb229, 1, none⟩ = some (.int .i64 t225) := (blk_cell BK229.out 1).trans rfl
            have hfs53 := blk_frozen BK229.out 1
            have hns53_0 := NB220_229.out
            have hns53_1 := NB227_229.out
            have hms53_0 := NB229_220.out
            have hms53_1 := NB229_227.out
            refine skip_ (w1 := ?_) (by rfl) rfl ?_ ?_
            rotate_left
            · go_simp
              rfl
            refine hK.out _ _ ⟨((cell_far (p := ⟨gb229, _, none⟩) NB227_229.out _).trans (hHeld.1)), ((cell_far (p := ⟨gb229, _, none⟩) NB227_229.out _).trans (hHeld.2))⟩ (fun hHeld => ?_)
            clear hK K
            refine done_ (done_of HT_.out (by kernel_rfl)) ?_
            have hcz54_0 : w52.cell? ⟨gb227, 0, none⟩ = some (.int .i64 t224) := (blk_cell BK227.out 0).trans rfl
            have hcz54_1 : w52.cell? ⟨gb227, 1, none⟩ = some (.int .i64 t225) := (blk_cell BK227.out 1).trans rfl
            have hfz54_0 := blk_frozen BK227.out 0
            have hfz54_1 := blk_frozen BK227.out 1
            try go_wp2_with (first | ((with_reducible refine gate_dst (N := 13) rfl ?_); refine box_event ?hg (N := 13) ?hd (cs := #[.int .i64 0, .int .i64 0]) (t := 26) ?hr ?_; (case hd => rfl); (case hg => rfl); (case hr => first | (go_simp; done) | (go_simp; rfl)); intro gb231 hg w55 hbox hb; have n0_ := Aside0.mk (blk_below (g := gb220) (o := .cells #[.int .u32 a1_0, .int .u32 a1_1, .int .u32 a1_2, .int .u32 a1_3] 24 (0, 0)) (by (with_reducible repeat (first | refine blk_drewN ?_ _ | refine blk_drew ?_ | refine blk_alloc ?_ _)); refine blk_far ?_ NB220_229.out _; (with_reducible repeat (first | refine blk_drewN ?_ _ | refine blk_drew ?_ | refine blk_alloc ?_ _)); exact BK220.out) hb); have n1_ := Aside0.mk (blk_below (g := gb227) (o := .cells #[.int .i64 t224, .int .i64 t225] 26 (0, 0)) (by (with_reducible repeat (first | refine blk_drewN ?_ _ | refine blk_drew ?_ | refine blk_alloc ?_ _)); refine blk_far ?_ NB227_229.out _; (with_reducible repeat (first | refine blk_drewN ?_ _ | refine blk_drew ?_ | refine blk_alloc ?_ _)); exact BK227.out) hb); have n2_ := Aside0.mk (blk_below (g := gb229) (o := .cells #[.int .i64 t224, .int .i64 (Int.tmod (wrap64 ((wrap64 (t225 + 1)) + t230)) 1073741789)] 26 (0, 0)) (by (with_reducible repeat (first | refine blk_drewN ?_ _ | refine blk_drew ?_ | refine blk_alloc ?_ _)); refine blk_put (cs := #[.int .i64 t224, .int .i64 t225]) ?_ 1 _ rfl; (with_reducible repeat (first | refine blk_drewN ?_ _ | refine blk_drew ?_ | refine blk_alloc ?_ _)); exact BK229.out) hb); have n3_ := Aside0.mk (below_step (by repeat (first | (with_reducible first | exact HB.out | apply below_alloc | apply pw_below_drewN | apply below_drew1 | refine below_set ?_ GE220.out | refine below_set ?_ GE227.out | refine below_set ?_ GE229.out) | exact HB.out)) hb); have n4_ := Aside0.mk (hbox); have n5_ := Aside0.mk ((by rw [hg]; exact (below_size (by repeat (first | (with_reducible first | exact HB.out | apply below_alloc | apply pw_below_drewN | apply below_drew1 | refine below_set ?_ GE220.out | refine below_set ?_ GE227.out | refine below_set ?_ GE229.out) | exact HB.out))) : w.heap.size ≤ gb231)); have n6_ := Aside0.mk ((by rw [hg]; exact (below_size (by repeat (first | (with_reducible first | exact HB.out | apply below_alloc | apply pw_below_drewN | apply below_drew1 | refine below_set ?_ GE220.out | refine below_set ?_ GE227.out | refine below_set ?_ GE229.out) | exact HB.out))) : w.heap.size ≤ gb231)); have n7_ := Aside0.mk ((by rw [hg]; exact Nat.ne_of_lt (blk_lt (g := gb220) (o := .cells #[.int .u32 a1_0, .int .u32 a1_1, .int .u32 a1_2, .int .u32 a1_3] 24 (0, 0)) (by (with_reducible repeat (first | refine blk_drewN ?_ _ | refine blk_drew ?_ | refine blk_alloc ?_ _)); refine blk_far ?_ NB220_229.out _; (with_reducible repeat (first | refine blk_drewN ?_ _ | refine blk_drew ?_ | refine blk_alloc ?_ _)); exact BK220.out)) : gb220 ≠ gb231)); have n8_ := Aside0.mk ((by rw [hg]; exact Nat.ne_of_gt (blk_lt (g := gb220) (o := .cells #[.int .u32 a1_0, .int .u32 a1_1, .int .u32 a1_2, .int .u32 a1_3] 24 (0, 0)) (by (with_reducible repeat (first | refine blk_drewN ?_ _ | refine blk_drew ?_ | refine blk_alloc ?_ _)); refine blk_far ?_ NB220_229.out _; (with_reducible repeat (first | refine blk_drewN ?_ _ | refine blk_drew ?_ | refine blk_alloc ?_ _)); exact BK220.out)) : gb231 ≠ gb220)); have n9_ := Aside0.mk ((by rw [hg]; exact Nat.ne_of_lt (blk_lt (g := gb227) (o := .cells #[.int .i64 t224, .int .i64 t225] 26 (0, 0)) (by (with_reducible repeat (first | refine blk_drewN ?_ _ | refine blk_drew ?_ | refine blk_alloc ?_ _)); refine blk_far ?_ NB227_229.out _; (with_reducible repeat (first | refine blk_drewN ?_ _ | refine blk_drew ?_ | refine blk_alloc ?_ _)); exact BK227.out)) : gb227 ≠ gb231)); have n10_ := Aside0.mk ((by rw [hg]; exact Nat.ne_of_gt (blk_lt (g := gb227) (o := .cells #[.int .i64 t224, .int .i64 t225] 26 (0, 0)) (by (with_reducible repeat (first | refine blk_drewN ?_ _ | refine blk_drew ?_ | refine blk_alloc ?_ _)); refine blk_far ?_ NB227_229.out _; (with_reducible repeat (first | refine blk_drewN ?_ _ | refine blk_drew ?_ | refine blk_alloc ?_ _)); exact BK227.out)) : gb231 ≠ gb227)); have n11_ := Aside0.mk ((by rw [hg]; exact Nat.ne_of_lt (blk_lt (g := gb229) (o := .cells #[.int .i64 t224, .int .i64 (Int.tmod (wrap64 ((wrap64 (t225 + 1)) + t230)) 1073741789)] 26 (0, 0)) (by (with_reducible repeat (first | refine blk_drewN ?_ _ | refine blk_drew ?_ | refine blk_alloc ?_ _)); refine blk_put (cs := #[.int .i64 t224, .int .i64 t225]) ?_ 1 _ rfl; (with_reducible repeat (first | refine blk_drewN ?_ _ | refine blk_drew ?_ | refine blk_alloc ?_ _)); exact BK229.out)) : gb229 ≠ gb231)); have n12_ := Aside0.mk ((by rw [hg]; exact Nat.ne_of_gt (blk_lt (g := gb229) (o := .cells #[.int .i64 t224, .int .i64 (Int.tmod (wrap64 ((wrap64 (t225 + 1)) + t230)) 1073741789)] 26 (0, 0)) (by (with_reducible repeat (first | refine blk_drewN ?_ _ | refine blk_drew ?_ | refine blk_alloc ?_ _)); refine blk_put (cs := #[.int .i64 t224, .int .i64 t225]) ?_ 1 _ rfl; (with_reducible repeat (first | refine blk_drewN ?_ _ | refine blk_drew ?_ | refine blk_alloc ?_ _)); exact BK229.out)) : gb231 ≠ gb229)); clear BK220; clear BK227; clear BK229; clear HB; have BK220 := n0_; have BK227 := n1_; have BK229 := n2_; have HB := n3_; have BK231 := n4_; have GW231 := n5_; have GE231 := n6_; have NB220_231 := n7_; have NB231_220 := n8_; have NB227_231 := n9_; have NB231_227 := n10_; have NB229_231 := n11_; have NB231_229 := n12_; clear n0_ n1_ n2_ n3_ n4_ n5_ n6_ n7_ n8_ n9_ n10_ n11_ n12_; clear hb hbox hg; have hnb56 := NB231_220.out; have hnc56 := NB220_231.out; have hnb57 := NB231_227.out; have hnc57 := NB227_231.out; have hnb58 := NB231_229.out; have hnc58 := NB229_231.out; have hcz59_0 : w55.cell? ⟨gb231, 0, none⟩ = some (.int .i64 0) := (blk_cell BK231.out 0).trans rfl; have hcz59_1 : w55.cell? ⟨gb231, 1, none⟩ = some (.int .i64 0) := (blk_cell BK231.out 1).trans rfl; have hfz59_0 := blk_frozen BK231.out 0; have hfz59_1 := blk_frozen BK231.out 1; have hcz60_0 : w55.cell? ⟨gb220, 0, none⟩ = some (.int .u32 a1_0) := (blk_cell BK220.out 0).trans rfl; have hcz60_1 : w55.cell? ⟨gb220, 1, none⟩ = some (.int .u32 a1_1) := (blk_cell BK220.out 1).trans rfl; have hcz60_2 : w55.cell? ⟨gb220, 2, none⟩ = some (.int .u32 a1_2) := (blk_cell BK220.out 2).trans rfl; have hcz60_3 : w55.cell? ⟨gb220, 3, none⟩ = some (.int .u32 a1_3) := (blk_cell BK220.out 3).trans rfl; have hfz60_0 := blk_frozen BK220.out 0; have hfz60_1 := blk_frozen BK220.out 1; have hfz60_2 := blk_frozen BK220.out 2; have hfz60_3 := blk_frozen BK220.out 3; have hcz61_0 : w55.cell? ⟨gb229, 0, none⟩ = some (.int .i64 t224) := (blk_cell BK229.out 0).trans rfl; have hcz61_1 : w55.cell? ⟨gb229, 1, none⟩ = some (.int .i64 (Int.tmod (wrap64 ((wrap64 (t225 + 1)) + t230)) 1073741789)) := (blk_cell BK229.out 1).trans rfl; have hfz61_0 := blk_frozen BK229.out 0; have hfz61_1 := blk_frozen BK229.out 1) | ((with_reducible refine gate_callee (f := 19) rfl ?_); refine goesL_ (some 58) rfl rfl Try.func19 (by kernel_rfl) rfl #[.int .i64 t222, .agg #[.int .u32 a1_0, .int .u32 a1_1, .int .u32 a1_2, .int .u32 a1_3], .agg #[.int .i64 t224, .int .i64 (Int.tmod (wrap64 ((wrap64 (t225 + 1)) + t230)) 1073741789)]] rfl (by (try simp only [List.map_toArray, List.map_cons, List.map_nil]); first | done | rfl | (simp only [List.length_drop, List.length_take]; rfl)) ?_; (with_reducible refine (signature_Verify.calls kj6 t222 a1_0 a1_1 a1_2 a1_3 t224 (Int.tmod (wrap64 ((wrap64 (t225 + 1)) + t230)) 1073741789) false _ A23.out).mono ?_); rintro e w62 ⟨rfl, hb⟩; refine ⟨_, rfl, ?_⟩; have n0_ := Aside0.mk (blk_below (g := gb220) (o := .cells #[.int .u32 a1_0, .int .u32 a1_1, .int .u32 a1_2, .int .u32 a1_3] 24 (0, 0)) (by (with_reducible repeat (first | refine blk_drewN ?_ _ | refine blk_drew ?_ | refine blk_alloc ?_ _)); refine blk_far ?_ NB220_231.out _; (with_reducible repeat (first | refine blk_drewN ?_ _ | refine blk_drew ?_ | refine blk_alloc ?_ _)); refine blk_far ?_ NB220_231.out _; (with_reducible repeat (first | refine blk_drewN ?_ _ | refine blk_drew ?_ | refine blk_alloc ?_ _)); refine blk_far ?_ NB220_231.out _; (with_reducible repeat (first | refine blk_drewN ?_ _ | refine blk_drew ?_ | refine blk_alloc ?_ _)); exact BK220.out) hb); have n1_ := Aside0.mk (blk_below (g := gb227) (o := .cells #[.int .i64 t224, .int .i64 t225] 26 (0, 0)) (by (with_reducible repeat (first | refine blk_drewN ?_ _ | refine blk_drew ?_ | refine blk_alloc ?_ _)); refine blk_far ?_ NB227_231.out _; (with_reducible repeat (first | refine blk_drewN ?_ _ | refine blk_drew ?_ | refine blk_alloc ?_ _)); refine blk_far ?_ NB227_231.out _; (with_reducible repeat (first | refine blk_drewN ?_ _ | refine blk_drew ?_ | refine blk_alloc ?_ _)); refine blk_far ?_ NB227_231.out _; (with_reducible repeat (first | refine blk_drewN ?_ _ | refine blk_drew ?_ | refine blk_alloc ?_ _)); exact BK227.out) hb); have n2_ := Aside0.mk (blk_below (g := gb229) (o := .cells #[.int .i64 t224, .int .i64 (Int.tmod (wrap64 ((wrap64 (t225 + 1)) + t230)) 1073741789)] 26 (0, 0)) (by (with_reducible repeat (first | refine blk_drewN ?_ _ | refine blk_drew ?_ | refine blk_alloc ?_ _)); refine blk_far ?_ NB229_231.out _; (with_reducible repeat (first | refine blk_drewN ?_ _ | refine blk_drew ?_ | refine blk_alloc ?_ _)); refine blk_far ?_ NB229_231.out _; (with_reducible repeat (first | refine blk_drewN ?_ _ | refine blk_drew ?_ | refine blk_alloc ?_ _)); refine blk_far ?_ NB229_231.out _; (with_reducible repeat (first | refine blk_drewN ?_ _ | refine blk_drew ?_ | refine blk_alloc ?_ _)); exact BK229.out) hb); have n3_ := Aside0.mk (blk_below (g := gb231) (o := .cells #[.int .i64 t224, .int .i64 (wrap64 (t225 + 1073741789))] 26 (0, 0)) (by (with_reducible repeat (first | refine blk_drewN ?_ _ | refine blk_drew ?_ | refine blk_alloc ?_ _)); refine blk_put (cs := #[.int .i64 t224, .int .i64 t225]) ?_ 1 _ rfl; (with_reducible repeat (first | refine blk_drewN ?_ _ | refine blk_drew ?_ | refine blk_alloc ?_ _)); refine blk_put (cs := #[.int .i64 t224, .int .i64 0]) ?_ 1 _ rfl; (with_reducible repeat (first | refine blk_drewN ?_ _ | refine blk_drew ?_ | refine blk_alloc ?_ _)); refine blk_put (cs := #[.int .i64 0, .int .i64 0]) ?_ 0 _ rfl; (with_reducible repeat (first | refine blk_drewN ?_ _ | refine blk_drew ?_ | refine blk_alloc ?_ _)); exact BK231.out) hb); have n4_ := Aside0.mk (below_step (by repeat (first | (with_reducible first | exact HB.out | apply below_alloc | apply pw_below_drewN | apply below_drew1 | refine below_set ?_ GE220.out | refine below_set ?_ GE227.out | refine below_set ?_ GE229.out | refine below_set ?_ GE231.out) | exact HB.out)) hb); clear BK220; clear BK227; clear BK229; clear BK231; clear HB; have BK220 := n0_; have BK227 := n1_; have BK229 := n2_; have BK231 := n3_; have HB := n4_; clear n0_ n1_ n2_ n3_ n4_; (try clear hb); (try clear hb2); (try clear hk); (try clear hi); have hcz63_0 : w62.cell? ⟨gb220, 0, none⟩ = some (.int .u32 a1_0) := (blk_cell BK220.out 0).trans rfl; have hcz63_1 : w62.cell? ⟨gb220, 1, none⟩ = some (.int .u32 a1_1) := (blk_cell BK220.out 1).trans rfl; have hcz63_2 : w62.cell? ⟨gb220, 2, none⟩ = some (.int .u32 a1_2) := (blk_cell BK220.out 2).trans rfl; have hcz63_3 : w62.cell? ⟨gb220, 3, none⟩ = some (.int .u32 a1_3) := (blk_cell BK220.out 3).trans rfl; have hfz63_0 := blk_frozen BK220.out 0; have hfz63_1 := blk_frozen BK220.out 1; have hfz63_2 := blk_frozen BK220.out 2; have hfz63_3 := blk_frozen BK220.out 3; have hcz64_0 : w62.cell? ⟨gb231, 0, none⟩ = some (.int .i64 t224) := (blk_cell BK231.out 0).trans rfl; have hcz64_1 : w62.cell? ⟨gb231, 1, none⟩ = some (.int .i64 (wrap64 (t225 + 1073741789))) := (blk_cell BK231.out 1).trans rfl; have hfz64_0 := blk_frozen BK231.out 0; have hfz64_1 := blk_frozen BK231.out 1) | (go_at_call 19; (with_reducible refine (signature_Verify.calls kj6 t222 a1_0 a1_1 a1_2 a1_3 t224 (wrap64 (t225 + 1073741789)) true _ A43.out).mono ?_); rintro e w65 ⟨rfl, hb⟩; have n0_ := Aside0.mk (blk_below (g := gb220) (o := .cells #[.int .u32 a1_0, .int .u32 a1_1, .int .u32 a1_2, .int .u32 a1_3] 24 (0, 0)) (by (with_reducible repeat (first | refine blk_drewN ?_ _ | refine blk_drew ?_ | refine blk_alloc ?_ _)); exact BK220.out) hb); have n1_ := Aside0.mk (blk_below (g := gb227) (o := .cells #[.int .i64 t224, .int .i64 t225] 26 (0, 0)) (by (with_reducible repeat (first | refine blk_drewN ?_ _ | refine blk_drew ?_ | refine blk_alloc ?_ _)); exact BK227.out) hb); have n2_ := Aside0.mk (blk_below (g := gb229) (o := .cells #[.int .i64 t224, .int .i64 (Int.tmod (wrap64 ((wrap64 (t225 + 1)) + t230)) 1073741789)] 26 (0, 0)) (by (with_reducible repeat (first | refine blk_drewN ?_ _ | refine blk_drew ?_ | refine blk_alloc ?_ _)); exact BK229.out) hb); have n3_ := Aside0.mk (blk_below (g := gb231) (o := .cells #[.int .i64 t224, .int .i64 (wrap64 (t225 + 1073741789))] 26 (0, 0)) (by (with_reducible repeat (first | refine blk_drewN ?_ _ | refine blk_drew ?_ | refine blk_alloc ?_ _)); exact BK231.out) hb); have n4_ := Aside0.mk (below_step (by repeat (first | (with_reducible first | exact HB.out | apply below_alloc | apply pw_below_drewN | apply below_drew1 | refine below_set ?_ GE220.out | refine below_set ?_ GE227.out | refine below_set ?_ GE229.out | refine below_set ?_ GE231.out) | exact HB.out)) hb); clear BK220; clear BK227; clear BK229; clear BK231; clear HB; have BK220 := n0_; have BK227 := n1_; have BK229 := n2_; have BK231 := n3_; have HB := n4_; clear n0_ n1_ n2_ n3_ n4_; (try clear hb); (try clear hb2); (try clear hk); (try clear hi)))
            go_ret
            exact ⟨by first | rfl | (simp [errW_none, errW_some] <;> rfl) | (simp [*, errW_none, errW_some] <;> rfl), by repeat (first | (with_reducible first | exact HB.out | apply below_alloc | apply pw_below_drewN | apply below_drew1 | refine below_set ?_ GE220.out | refine below_set ?_ GE227.out | refine below_set ?_ GE229.out | refine below_set ?_ GE231.out) | exact HB.out)⟩
          · replace c44 := Bool.eq_false_iff.mpr c44
            subst c44
            have H1 : ((awardingbodylaw41_sane.f kj6).bind fun t234 => (some t234)) = some r := by rw [if_neg (show ¬ (false = true) by decide)] at H; exact H
            clear H
            have H := H1
            clear H1
            replace H := Option.bind_eq_some_iff.mp H
            obtain ⟨t234, A660, H⟩ := H
            replace H : (some t234) = some r := H
            have A66 := Aside0.mk A660
            clear A660
            obtain rfl := Option.some.inj H
            have hnb67 := NB227_220.out
            have hnc67 := NB220_227.out
            have hcz68_0 : wc.cell? ⟨gb227, 0, none⟩ = some (.int .i64 t224) := (blk_cell BK227.out 0).trans rfl
            have hcz68_1 : wc.cell? ⟨gb227, 1, none⟩ = some (.int .i64 t225) := (blk_cell BK227.out 1).trans rfl
            have hfz68_0 := blk_frozen BK227.out 0
            have hfz68_1 := blk_frozen BK227.out 1
            try go_wp2_with (first | ((with_reducible refine gate_dst (N := 12) rfl ?_); refine box_event ?hg (N := 12) ?hd (cs := #[.int .i64 0, .int .i64 0]) (t := 26) ?hr ?_; (case hd => rfl); (case hg => rfl); (case hr => first | (go_simp; done) | (go_simp; rfl)); intro gb229 hg w69 hbox hb; have n0_ := Aside0.mk (blk_below (g := gb220) (o := .cells #[.int .u32 a1_0, .int .u32 a1_1, .int .u32 a1_2, .int .u32 a1_3] 24 (0, 0)) (by (with_reducible repeat (first | refine blk_drewN ?_ _ | refine blk_drew ?_ | refine blk_alloc ?_ _)); exact BK220.out) hb); have n1_ := Aside0.mk (blk_below (g := gb227) (o := .cells #[.int .i64 t224, .int .i64 t225] 26 (0, 0)) (by (with_reducible repeat (first | refine blk_drewN ?_ _ | refine blk_drew ?_ | refine blk_alloc ?_ _)); exact BK227.out) hb); have n2_ := Aside0.mk (below_step (by repeat (first | (with_reducible first | exact HB.out | apply below_alloc | apply pw_below_drewN | apply below_drew1 | refine below_set ?_ GE220.out | refine below_set ?_ GE227.out) | exact HB.out)) hb); have n3_ := Aside0.mk (hbox); have n4_ := Aside0.mk ((by rw [hg]; exact (below_size (by repeat (first | (with_reducible first | exact HB.out | apply below_alloc | apply pw_below_drewN | apply below_drew1 | refine below_set ?_ GE220.out | refine below_set ?_ GE227.out) | exact HB.out))) : w.heap.size ≤ gb229)); have n5_ := Aside0.mk ((by rw [hg]; exact (below_size (by repeat (first | (with_reducible first | exact HB.out | apply below_alloc | apply pw_below_drewN | apply below_drew1 | refine below_set ?_ GE220.out | refine below_set ?_ GE227.out) | exact HB.out))) : w.heap.size ≤ gb229)); have n6_ := Aside0.mk ((by rw [hg]; exact Nat.ne_of_lt (blk_lt (g := gb220) (o := .cells #[.int .u32 a1_0, .int .u32 a1_1, .int .u32 a1_2, .int .u32 a1_3] 24 (0, 0)) (by (with_reducible repeat (first | refine blk_drewN ?_ _ | refine blk_drew ?_ | refine blk_alloc ?_ _)); exact BK220.out)) : gb220 ≠ gb229)); have n7_ := Aside0.mk ((by rw [hg]; exact Nat.ne_of_gt (blk_lt (g := gb220) (o := .cells #[.int .u32 a1_0, .int .u32 a1_1, .int .u32 a1_2, .int .u32 a1_3] 24 (0, 0)) (by (with_reducible repeat (first | refine blk_drewN ?_ _ | refine blk_drew ?_ | refine blk_alloc ?_ _)); exact BK220.out)) : gb229 ≠ gb220)); have n8_ := Aside0.mk ((by rw [hg]; exact Nat.ne_of_lt (blk_lt (g := gb227) (o := .cells #[.int .i64 t224, .int .i64 t225] 26 (0, 0)) (by (with_reducible repeat (first | refine blk_drewN ?_ _ | refine blk_drew ?_ | refine blk_alloc ?_ _)); exact BK227.out)) : gb227 ≠ gb229)); have n9_ := Aside0.mk ((by rw [hg]; exact Nat.ne_of_gt (blk_lt (g := gb227) (o := .cells #[.int .i64 t224, .int .i64 t225] 26 (0, 0)) (by (with_reducible repeat (first | refine blk_drewN ?_ _ | refine blk_drew ?_ | refine blk_alloc ?_ _)); exact BK227.out)) : gb229 ≠ gb227)); clear BK220; clear BK227; clear HB; have BK220 := n0_; have BK227 := n1_; have HB := n2_; have BK229 := n3_; have GW229 := n4_; have GE229 := n5_; have NB220_229 := n6_; have NB229_220 := n7_; have NB227_229 := n8_; have NB229_227 := n9_; clear n0_ n1_ n2_ n3_ n4_ n5_ n6_ n7_ n8_ n9_; clear hb hbox hg; have hnb70 := NB229_220.out; have hnc70 := NB220_229.out; have hnb71 := NB229_227.out; have hnc71 := NB227_229.out; have hcz72_0 : w69.cell? ⟨gb229, 0, none⟩ = some (.int .i64 0) := (blk_cell BK229.out 0).trans rfl; have hcz72_1 : w69.cell? ⟨gb229, 1, none⟩ = some (.int .i64 0) := (blk_cell BK229.out 1).trans rfl; have hfz72_0 := blk_frozen BK229.out 0; have hfz72_1 := blk_frozen BK229.out 1))
            have n0_ : Aside0 (((w69.setCell ⟨gb229, 0, none⟩ (.int .i64 t224)).setCell ⟨gb229, 1, none⟩ (.int .i64 t225)).heap[gb220]? = some (.cells #[.int .u32 a1_0, .int .u32 a1_1, .int .u32 a1_2, .int .u32 a1_3] 24 (0, 0))) := ⟨by (with_reducible repeat (first | refine blk_drewN ?_ _ | refine blk_drew ?_ | refine blk_alloc ?_ _)); refine blk_far ?_ NB220_229.out _; (with_reducible repeat (first | refine blk_drewN ?_ _ | refine blk_drew ?_ | refine blk_alloc ?_ _)); refine blk_far ?_ NB220_229.out _; (with_reducible repeat (first | refine blk_drewN ?_ _ | refine blk_drew ?_ | refine blk_alloc ?_ _)); exact BK220.out⟩
            have n1_ : Aside0 (((w69.setCell ⟨gb229, 0, none⟩ (.int .i64 t224)).setCell ⟨gb229, 1, none⟩ (.int .i64 t225)).heap[gb227]? = some (.cells #[.int .i64 t224, .int .i64 t225] 26 (0, 0))) := ⟨by (with_reducible repeat (first | refine blk_drewN ?_ _ | refine blk_drew ?_ | refine blk_alloc ?_ _)); refine blk_far ?_ NB227_229.out _; (with_reducible repeat (first | refine blk_drewN ?_ _ | refine blk_drew ?_ | refine blk_alloc ?_ _)); refine blk_far ?_ NB227_229.out _; (with_reducible repeat (first | refine blk_drewN ?_ _ | refine blk_drew ?_ | refine blk_alloc ?_ _)); exact BK227.out⟩
            have n2_ : Aside0 (((w69.setCell ⟨gb229, 0, none⟩ (.int .i64 t224)).setCell ⟨gb229, 1, none⟩ (.int .i64 t225)).heap[gb229]? = some (.cells #[.int .i64 t224, .int .i64 t225] 26 (0, 0))) := ⟨by (with_reducible repeat (first | refine blk_drewN ?_ _ | refine blk_drew ?_ | refine blk_alloc ?_ _)); refine blk_put (cs := #[.int .i64 t224, .int .i64 0]) ?_ 1 _ rfl; (with_reducible repeat (first | refine blk_drewN ?_ _ | refine blk_drew ?_ | refine blk_alloc ?_ _)); refine blk_put (cs := #[.int .i64 0, .int .i64 0]) ?_ 0 _ rfl; (with_reducible repeat (first | refine blk_drewN ?_ _ | refine blk_drew ?_ | refine blk_alloc ?_ _)); exact BK229.out⟩
            have n3_ : Aside0 (Below w.heap.size w ((w69.setCell ⟨gb229, 0, none⟩ (.int .i64 t224)).setCell ⟨gb229, 1, none⟩ (.int .i64 t225))) := ⟨by repeat (first | (with_reducible first | exact HB.out | apply below_alloc | apply pw_below_drewN | apply below_drew1 | refine below_set ?_ GE220.out | refine below_set ?_ GE227.out | refine below_set ?_ GE229.out) | exact HB.out)⟩
            (try clear BK220)
            (try clear BK227)
            (try clear BK229)
            (try clear HB)
            generalize ((w69.setCell ⟨gb229, 0, none⟩ (.int .i64 t224)).setCell ⟨gb229, 1, none⟩ (.int .i64 t225)) = w73 at n0_ n1_ n2_ n3_ ⊢
            have BK220 := n0_
            have BK227 := n1_
            have BK229 := n2_
            have HB := n3_
            clear n0_ n1_ n2_ n3_
            have n0_ := Aside0.mk (blk_drew BK220.out)
            have n1_ := Aside0.mk (blk_drew BK227.out)
            have n2_ := Aside0.mk (blk_drew BK229.out)
            have n3_ := Aside0.mk (below_drew1 HB.out)
            clear BK220
            clear BK227
            clear BK229
            clear HB
            have BK220 := n0_
            have BK227 := n1_
            have BK229 := n2_
            have HB := n3_
            clear n0_ n1_ n2_ n3_
            refine start_ (n := 9) (S := fun w' => w'.cell? ⟨gb227, 0, none⟩ = some (.int .i64 t224) ∧ w'.cell? ⟨gb227, 1, none⟩ = some (.int .i64 t225)) (ds := []) #[false, false, false, false, false, false, false, false, false] (by kernel_rfl) rfl rfl ⟨(blk_cell BK227.out 0).trans rfl, (blk_cell BK227.out 1).trans rfl⟩ (fun hHeld => ?_); refine with_tabW awardingbodylaw41_SignatureHolds.tab7 awardingbodylaw41_SignatureHolds.bits7 (fun HT_ HW_ => ?_)
            generalize w73.drew = w74 at BK220 BK227 BK229 HB hHeld ⊢
            refine pure_ (i := 0) (N := some 42) (v := ?_) (a' := ?_) #[true, false, false, false, false, false, false, false, false] rfl rfl (any_of HT_.out (by kernel_rfl)) (fun _ _ _ h => h) (Or.inl ⟨by rfl, ?_⟩) ?_ ?_
            rotate_left
            · intro w'
              go_simp
              with_reducible rfl
            rotate_left
            · simp only [Act.put, List.setIfInBounds_toArray, List.set_cons_zero, List.set_cons_succ, i64_w, i32_w]
              rfl
            refine pure_ (i := 3) (N := some 45) (v := ?_) (a' := ?_) #[true, false, false, true, false, false, false, false, false] rfl rfl (any_of HT_.out (by kernel_rfl)) (fun _ _ _ h => h) (Or.inl ⟨by rfl, ?_⟩) ?_ ?_
            rotate_left
            · intro w'
              go_simp
              with_reducible rfl
            rotate_left
            · simp only [Act.put, List.setIfInBounds_toArray, List.set_cons_zero, List.set_cons_succ, i64_w, i32_w]
              rfl
            refine take_ (i := 1) (N := some 43) (v := ?_) (a' := ?_) #[true, true, false, true, false, false, false, false, false] rfl rfl (take_ofW HT_.out HW_.out (by kernel_rfl)) (fun _ _ _ h => h) (Or.inl ⟨by rfl, ?_⟩) hHeld ?_ ?_
            rotate_left
            · rintro w' ⟨s0, s1⟩
              go_simp
              with_reducible rfl
            rotate_left
            · simp only [Act.put, List.setIfInBounds_toArray, List.set_cons_zero, List.set_cons_succ, i64_w, i32_w]
              rfl
            refine pure_ (i := 2) (N := some 44) (v := ?_) (a' := ?_) #[true, true, true, true, false, false, false, false, false] rfl rfl (any_of HT_.out (by kernel_rfl)) (fun _ _ _ h => h) (Or.inl ⟨by rfl, ?_⟩) ?_ ?_
            rotate_left
            · intro w'
              go_simp
              with_reducible rfl
            rotate_left
            · simp only [Act.put, List.setIfInBounds_toArray, List.set_cons_zero, List.set_cons_succ, i64_w, i32_w]
              rfl
            refine one_ (i := 4) (N := some 46) #[true, true, true, true, true, false, false, false, false] rfl rfl (one_of HT_.out (by kernel_rfl)) (by decide) (fun K hK => ?_)
            refine goes_ Try.func8 (by kernel_rfl) rfl #[.int .i64 a2, .int .i64 1073741788] (by rfl) rfl rfl (by (try simp only [List.map_toArray, List.map_cons, List.map_nil]); first | done | rfl | (simp only [List.length_drop, List.length_take]; rfl)) ?_
            with_reducible refine (awardingbodymark_Mod.calls a2 1073741788 t230 _ A22.out).mono ?_
            rintro e w' ⟨rfl, ⟨nd, rfl⟩⟩
            refine ⟨_, rfl, ?_⟩
            refine hK.out _ _ ⟨(blk_cell BK227.out 0).trans rfl, (blk_cell BK227.out 1).trans rfl⟩ (fun hHeld => ?_)
            clear hK K
            refine norm_ (a' := ?_) ?_ ?_
            rotate_left
            · show Act.put _ (some 46) _ = _
              simp only [Act.put, List.setIfInBounds_toArray, List.set_cons_zero, List.set_cons_succ, i64_w, i32_w]
              rfl
            refine pure_ (i := 5) (N := some 47) (v := ?_) (a' := ?_) #[true, true, true, true, true, true, false, false, false] rfl rfl (any_of HT_.out (by kernel_rfl)) (fun _ _ _ h => h) (Or.inl ⟨by rfl, ?_⟩) ?_ ?_
            rotate_left
            · intro w'
              go_simp
              with_reducible rfl
            rotate_left
            · simp only [Act.put, List.setIfInBounds_toArray, List.set_cons_zero, List.set_cons_succ, i64_w, i32_w]
              rfl
            refine pure_ (i := 6) (N := some 48) (v := ?_) (a' := ?_) #[true, true, true, true, true, true, true, false, false] rfl rfl (any_of HT_.out (by kernel_rfl)) (fun _ _ _ h => h) (Or.inl ⟨by rfl, ?_⟩) ?_ ?_
            rotate_left
            · intro w'
              go_simp
              with_reducible rfl
            rotate_left
            · simp only [Act.put, List.setIfInBounds_toArray, List.set_cons_zero, List.set_cons_succ, i64_w, i32_w]
              rfl
            refine pure_ (i := 7) (N := some 49) (v := ?_) (a' := ?_) #[true, true, true, true, true, true, true, true, false] rfl rfl (any_of HT_.out (by kernel_rfl)) (fun _ _ _ h => h) (Or.inl ⟨by rfl, ?_⟩) ?_ ?_
            rotate_left
            · intro w'
              go_simp
              with_reducible rfl
            rotate_left
            · simp only [Act.put, List.setIfInBounds_toArray, List.set_cons_zero, List.set_cons_succ, i64_w, i32_w]
              rfl
            refine one_ (i := 8) (N := none) #[true, true, true, true, true, true, true, true, true] rfl rfl (one_of HT_.out (by kernel_rfl)) (by decide) (fun K hK => ?_)
            have hs75 : w74.cell? ⟨gb229, 1, none⟩ = some (.int .i64 t225) := (blk_cell BK229.out 1).trans rfl
            have hfs75 := blk_frozen BK229.out 1
            have hns75_0 := NB220_229.out
            have hns75_1 := NB227_229.out
            have hms75_0 := NB229_220.out
            have hms75_1 := NB229_227.out
            refine skip_ (w1 := ?_) (by rfl) rfl ?_ ?_
            rotate_left
            · go_simp
              rfl
            refine hK.out _ _ ⟨((cell_far (p := ⟨gb229, _, none⟩) NB227_229.out _).trans (hHeld.1)), ((cell_far (p := ⟨gb229, _, none⟩) NB227_229.out _).trans (hHeld.2))⟩ (fun hHeld => ?_)
            clear hK K
            refine done_ (done_of HT_.out (by kernel_rfl)) ?_
            have hcz76_0 : w74.cell? ⟨gb227, 0, none⟩ = some (.int .i64 t224) := (blk_cell BK227.out 0).trans rfl
            have hcz76_1 : w74.cell? ⟨gb227, 1, none⟩ = some (.int .i64 t225) := (blk_cell BK227.out 1).trans rfl
            have hfz76_0 := blk_frozen BK227.out 0
            have hfz76_1 := blk_frozen BK227.out 1
            try go_wp2_with (first | ((with_reducible refine gate_dst (N := 13) rfl ?_); refine box_event ?hg (N := 13) ?hd (cs := #[.int .i64 0, .int .i64 0]) (t := 26) ?hr ?_; (case hd => rfl); (case hg => rfl); (case hr => first | (go_simp; done) | (go_simp; rfl)); intro gb231 hg w77 hbox hb; have n0_ := Aside0.mk (blk_below (g := gb220) (o := .cells #[.int .u32 a1_0, .int .u32 a1_1, .int .u32 a1_2, .int .u32 a1_3] 24 (0, 0)) (by (with_reducible repeat (first | refine blk_drewN ?_ _ | refine blk_drew ?_ | refine blk_alloc ?_ _)); refine blk_far ?_ NB220_229.out _; (with_reducible repeat (first | refine blk_drewN ?_ _ | refine blk_drew ?_ | refine blk_alloc ?_ _)); exact BK220.out) hb); have n1_ := Aside0.mk (blk_below (g := gb227) (o := .cells #[.int .i64 t224, .int .i64 t225] 26 (0, 0)) (by (with_reducible repeat (first | refine blk_drewN ?_ _ | refine blk_drew ?_ | refine blk_alloc ?_ _)); refine blk_far ?_ NB227_229.out _; (with_reducible repeat (first | refine blk_drewN ?_ _ | refine blk_drew ?_ | refine blk_alloc ?_ _)); exact BK227.out) hb); have n2_ := Aside0.mk (blk_below (g := gb229) (o := .cells #[.int .i64 t224, .int .i64 (Int.tmod (wrap64 ((wrap64 (t225 + 1)) + t230)) 1073741789)] 26 (0, 0)) (by (with_reducible repeat (first | refine blk_drewN ?_ _ | refine blk_drew ?_ | refine blk_alloc ?_ _)); refine blk_put (cs := #[.int .i64 t224, .int .i64 t225]) ?_ 1 _ rfl; (with_reducible repeat (first | refine blk_drewN ?_ _ | refine blk_drew ?_ | refine blk_alloc ?_ _)); exact BK229.out) hb); have n3_ := Aside0.mk (below_step (by repeat (first | (with_reducible first | exact HB.out | apply below_alloc | apply pw_below_drewN | apply below_drew1 | refine below_set ?_ GE220.out | refine below_set ?_ GE227.out | refine below_set ?_ GE229.out) | exact HB.out)) hb); have n4_ := Aside0.mk (hbox); have n5_ := Aside0.mk ((by rw [hg]; exact (below_size (by repeat (first | (with_reducible first | exact HB.out | apply below_alloc | apply pw_below_drewN | apply below_drew1 | refine below_set ?_ GE220.out | refine below_set ?_ GE227.out | refine below_set ?_ GE229.out) | exact HB.out))) : w.heap.size ≤ gb231)); have n6_ := Aside0.mk ((by rw [hg]; exact (below_size (by repeat (first | (with_reducible first | exact HB.out | apply below_alloc | apply pw_below_drewN | apply below_drew1 | refine below_set ?_ GE220.out | refine below_set ?_ GE227.out | refine below_set ?_ GE229.out) | exact HB.out))) : w.heap.size ≤ gb231)); have n7_ := Aside0.mk ((by rw [hg]; exact Nat.ne_of_lt (blk_lt (g := gb220) (o := .cells #[.int .u32 a1_0, .int .u32 a1_1, .int .u32 a1_2, .int .u32 a1_3] 24 (0, 0)) (by (with_reducible repeat (first | refine blk_drewN ?_ _ | refine blk_drew ?_ | refine blk_alloc ?_ _)); refine blk_far ?_ NB220_229.out _; (with_reducible repeat (first | refine blk_drewN ?_ _ | refine blk_drew ?_ | refine blk_alloc ?_ _)); exact BK220.out)) : gb220 ≠ gb231)); have n8_ := Aside0.mk ((by rw [hg]; exact Nat.ne_of_gt (blk_lt (g := gb220) (o := .cells #[.int .u32 a1_0, .int .u32 a1_1, .int .u32 a1_2, .int .u32 a1_3] 24 (0, 0)) (by (with_reducible repeat (first | refine blk_drewN ?_ _ | refine blk_drew ?_ | refine blk_alloc ?_ _)); refine blk_far ?_ NB220_229.out _; (with_reducible repeat (first | refine blk_drewN ?_ _ | refine blk_drew ?_ | refine blk_alloc ?_ _)); exact BK220.out)) : gb231 ≠ gb220)); have n9_ := Aside0.mk ((by rw [hg]; exact Nat.ne_of_lt (blk_lt (g := gb227) (o := .cells #[.int .i64 t224, .int .i64 t225] 26 (0, 0)) (by (with_reducible repeat (first | refine blk_drewN ?_ _ | refine blk_drew ?_ | refine blk_alloc ?_ _)); refine blk_far ?_ NB227_229.out _; (with_reducible repeat (first | refine blk_drewN ?_ _ | refine blk_drew ?_ | refine blk_alloc ?_ _)); exact BK227.out)) : gb227 ≠ gb231)); have n10_ := Aside0.mk ((by rw [hg]; exact Nat.ne_of_gt (blk_lt (g := gb227) (o := .cells #[.int .i64 t224, .int .i64 t225] 26 (0, 0)) (by (with_reducible repeat (first | refine blk_drewN ?_ _ | refine blk_drew ?_ | refine blk_alloc ?_ _)); refine blk_far ?_ NB227_229.out _; (with_reducible repeat (first | refine blk_drewN ?_ _ | refine blk_drew ?_ | refine blk_alloc ?_ _)); exact BK227.out)) : gb231 ≠ gb227)); have n11_ := Aside0.mk ((by rw [hg]; exact Nat.ne_of_lt (blk_lt (g := gb229) (o := .cells #[.int .i64 t224, .int .i64 (Int.tmod (wrap64 ((wrap64 (t225 + 1)) + t230)) 1073741789)] 26 (0, 0)) (by (with_reducible repeat (first | refine blk_drewN ?_ _ | refine blk_drew ?_ | refine blk_alloc ?_ _)); refine blk_put (cs := #[.int .i64 t224, .int .i64 t225]) ?_ 1 _ rfl; (with_reducible repeat (first | refine blk_drewN ?_ _ | refine blk_drew ?_ | refine blk_alloc ?_ _)); exact BK229.out)) : gb229 ≠ gb231)); have n12_ := Aside0.mk ((by rw [hg]; exact Nat.ne_of_gt (blk_lt (g := gb229) (o := .cells #[.int .i64 t224, .int .i64 (Int.tmod (wrap64 ((wrap64 (t225 + 1)) + t230)) 1073741789)] 26 (0, 0)) (by (with_reducible repeat (first | refine blk_drewN ?_ _ | refine blk_drew ?_ | refine blk_alloc ?_ _)); refine blk_put (cs := #[.int .i64 t224, .int .i64 t225]) ?_ 1 _ rfl; (with_reducible repeat (first | refine blk_drewN ?_ _ | refine blk_drew ?_ | refine blk_alloc ?_ _)); exact BK229.out)) : gb231 ≠ gb229)); clear BK220; clear BK227; clear BK229; clear HB; have BK220 := n0_; have BK227 := n1_; have BK229 := n2_; have HB := n3_; have BK231 := n4_; have GW231 := n5_; have GE231 := n6_; have NB220_231 := n7_; have NB231_220 := n8_; have NB227_231 := n9_; have NB231_227 := n10_; have NB229_231 := n11_; have NB231_229 := n12_; clear n0_ n1_ n2_ n3_ n4_ n5_ n6_ n7_ n8_ n9_ n10_ n11_ n12_; clear hb hbox hg; have hnb78 := NB231_220.out; have hnc78 := NB220_231.out; have hnb79 := NB231_227.out; have hnc79 := NB227_231.out; have hnb80 := NB231_229.out; have hnc80 := NB229_231.out; have hcz81_0 : w77.cell? ⟨gb231, 0, none⟩ = some (.int .i64 0) := (blk_cell BK231.out 0).trans rfl; have hcz81_1 : w77.cell? ⟨gb231, 1, none⟩ = some (.int .i64 0) := (blk_cell BK231.out 1).trans rfl; have hfz81_0 := blk_frozen BK231.out 0; have hfz81_1 := blk_frozen BK231.out 1; have hcz82_0 : w77.cell? ⟨gb220, 0, none⟩ = some (.int .u32 a1_0) := (blk_cell BK220.out 0).trans rfl; have hcz82_1 : w77.cell? ⟨gb220, 1, none⟩ = some (.int .u32 a1_1) := (blk_cell BK220.out 1).trans rfl; have hcz82_2 : w77.cell? ⟨gb220, 2, none⟩ = some (.int .u32 a1_2) := (blk_cell BK220.out 2).trans rfl; have hcz82_3 : w77.cell? ⟨gb220, 3, none⟩ = some (.int .u32 a1_3) := (blk_cell BK220.out 3).trans rfl; have hfz82_0 := blk_frozen BK220.out 0; have hfz82_1 := blk_frozen BK220.out 1; have hfz82_2 := blk_frozen BK220.out 2; have hfz82_3 := blk_frozen BK220.out 3; have hcz83_0 : w77.cell? ⟨gb229, 0, none⟩ = some (.int .i64 t224) := (blk_cell BK229.out 0).trans rfl; have hcz83_1 : w77.cell? ⟨gb229, 1, none⟩ = some (.int .i64 (Int.tmod (wrap64 ((wrap64 (t225 + 1)) + t230)) 1073741789)) := (blk_cell BK229.out 1).trans rfl; have hfz83_0 := blk_frozen BK229.out 0; have hfz83_1 := blk_frozen BK229.out 1) | ((with_reducible refine gate_callee (f := 19) rfl ?_); refine goesL_ (some 58) rfl rfl Try.func19 (by kernel_rfl) rfl #[.int .i64 t222, .agg #[.int .u32 a1_0, .int .u32 a1_1, .int .u32 a1_2, .int .u32 a1_3], .agg #[.int .i64 t224, .int .i64 (Int.tmod (wrap64 ((wrap64 (t225 + 1)) + t230)) 1073741789)]] rfl (by (try simp only [List.map_toArray, List.map_cons, List.map_nil]); first | done | rfl | (simp only [List.length_drop, List.length_take]; rfl)) ?_; (with_reducible refine (signature_Verify.calls kj6 t222 a1_0 a1_1 a1_2 a1_3 t224 (Int.tmod (wrap64 ((wrap64 (t225 + 1)) + t230)) 1073741789) false _ A23.out).mono ?_); rintro e w84 ⟨rfl, hb⟩; refine ⟨_, rfl, ?_⟩; have n0_ := Aside0.mk (blk_below (g := gb220) (o := .cells #[.int .u32 a1_0, .int .u32 a1_1, .int .u32 a1_2, .int .u32 a1_3] 24 (0, 0)) (by (with_reducible repeat (first | refine blk_drewN ?_ _ | refine blk_drew ?_ | refine blk_alloc ?_ _)); refine blk_far ?_ NB220_231.out _; (with_reducible repeat (first | refine blk_drewN ?_ _ | refine blk_drew ?_ | refine blk_alloc ?_ _)); refine blk_far ?_ NB220_231.out _; (with_reducible repeat (first | refine blk_drewN ?_ _ | refine blk_drew ?_ | refine blk_alloc ?_ _)); refine blk_far ?_ NB220_231.out _; (with_reducible repeat (first | refine blk_drewN ?_ _ | refine blk_drew ?_ | refine blk_alloc ?_ _)); exact BK220.out) hb); have n1_ := Aside0.mk (blk_below (g := gb227) (o := .cells #[.int .i64 t224, .int .i64 t225] 26 (0, 0)) (by (with_reducible repeat (first | refine blk_drewN ?_ _ | refine blk_drew ?_ | refine blk_alloc ?_ _)); refine blk_far ?_ NB227_231.out _; (with_reducible repeat (first | refine blk_drewN ?_ _ | refine blk_drew ?_ | refine blk_alloc ?_ _)); refine blk_far ?_ NB227_231.out _; (with_reducible repeat (first | refine blk_drewN ?_ _ | refine blk_drew ?_ | refine blk_alloc ?_ _)); refine blk_far ?_ NB227_231.out _; (with_reducible repeat (first | refine blk_drewN ?_ _ | refine blk_drew ?_ | refine blk_alloc ?_ _)); exact BK227.out) hb); have n2_ := Aside0.mk (blk_below (g := gb229) (o := .cells #[.int .i64 t224, .int .i64 (Int.tmod (wrap64 ((wrap64 (t225 + 1)) + t230)) 1073741789)] 26 (0, 0)) (by (with_reducible repeat (first | refine blk_drewN ?_ _ | refine blk_drew ?_ | refine blk_alloc ?_ _)); refine blk_far ?_ NB229_231.out _; (with_reducible repeat (first | refine blk_drewN ?_ _ | refine blk_drew ?_ | refine blk_alloc ?_ _)); refine blk_far ?_ NB229_231.out _; (with_reducible repeat (first | refine blk_drewN ?_ _ | refine blk_drew ?_ | refine blk_alloc ?_ _)); refine blk_far ?_ NB229_231.out _; (with_reducible repeat (first | refine blk_drewN ?_ _ | refine blk_drew ?_ | refine blk_alloc ?_ _)); exact BK229.out) hb); have n3_ := Aside0.mk (blk_below (g := gb231) (o := .cells #[.int .i64 t224, .int .i64 (wrap64 (t225 + 1073741789))] 26 (0, 0)) (by (with_reducible repeat (first | refine blk_drewN ?_ _ | refine blk_drew ?_ | refine blk_alloc ?_ _)); refine blk_put (cs := #[.int .i64 t224, .int .i64 t225]) ?_ 1 _ rfl; (with_reducible repeat (first | refine blk_drewN ?_ _ | refine blk_drew ?_ | refine blk_alloc ?_ _)); refine blk_put (cs := #[.int .i64 t224, .int .i64 0]) ?_ 1 _ rfl; (with_reducible repeat (first | refine blk_drewN ?_ _ | refine blk_drew ?_ | refine blk_alloc ?_ _)); refine blk_put (cs := #[.int .i64 0, .int .i64 0]) ?_ 0 _ rfl; (with_reducible repeat (first | refine blk_drewN ?_ _ | refine blk_drew ?_ | refine blk_alloc ?_ _)); exact BK231.out) hb); have n4_ := Aside0.mk (below_step (by repeat (first | (with_reducible first | exact HB.out | apply below_alloc | apply pw_below_drewN | apply below_drew1 | refine below_set ?_ GE220.out | refine below_set ?_ GE227.out | refine below_set ?_ GE229.out | refine below_set ?_ GE231.out) | exact HB.out)) hb); clear BK220; clear BK227; clear BK229; clear BK231; clear HB; have BK220 := n0_; have BK227 := n1_; have BK229 := n2_; have BK231 := n3_; have HB := n4_; clear n0_ n1_ n2_ n3_ n4_; (try clear hb); (try clear hb2); (try clear hk); (try clear hi); have hcz85_0 : w84.cell? ⟨gb220, 0, none⟩ = some (.int .u32 a1_0) := (blk_cell BK220.out 0).trans rfl; have hcz85_1 : w84.cell? ⟨gb220, 1, none⟩ = some (.int .u32 a1_1) := (blk_cell BK220.out 1).trans rfl; have hcz85_2 : w84.cell? ⟨gb220, 2, none⟩ = some (.int .u32 a1_2) := (blk_cell BK220.out 2).trans rfl; have hcz85_3 : w84.cell? ⟨gb220, 3, none⟩ = some (.int .u32 a1_3) := (blk_cell BK220.out 3).trans rfl; have hfz85_0 := blk_frozen BK220.out 0; have hfz85_1 := blk_frozen BK220.out 1; have hfz85_2 := blk_frozen BK220.out 2; have hfz85_3 := blk_frozen BK220.out 3; have hcz86_0 : w84.cell? ⟨gb231, 0, none⟩ = some (.int .i64 t224) := (blk_cell BK231.out 0).trans rfl; have hcz86_1 : w84.cell? ⟨gb231, 1, none⟩ = some (.int .i64 (wrap64 (t225 + 1073741789))) := (blk_cell BK231.out 1).trans rfl; have hfz86_0 := blk_frozen BK231.out 0; have hfz86_1 := blk_frozen BK231.out 1) | (go_at_call 19; (with_reducible refine (signature_Verify.calls kj6 t222 a1_0 a1_1 a1_2 a1_3 t224 (wrap64 (t225 + 1073741789)) false _ A43.out).mono ?_); rintro e w87 ⟨rfl, hb⟩; have n0_ := Aside0.mk (blk_below (g := gb220) (o := .cells #[.int .u32 a1_0, .int .u32 a1_1, .int .u32 a1_2, .int .u32 a1_3] 24 (0, 0)) (by (with_reducible repeat (first | refine blk_drewN ?_ _ | refine blk_drew ?_ | refine blk_alloc ?_ _)); exact BK220.out) hb); have n1_ := Aside0.mk (blk_below (g := gb227) (o := .cells #[.int .i64 t224, .int .i64 t225] 26 (0, 0)) (by (with_reducible repeat (first | refine blk_drewN ?_ _ | refine blk_drew ?_ | refine blk_alloc ?_ _)); exact BK227.out) hb); have n2_ := Aside0.mk (blk_below (g := gb229) (o := .cells #[.int .i64 t224, .int .i64 (Int.tmod (wrap64 ((wrap64 (t225 + 1)) + t230)) 1073741789)] 26 (0, 0)) (by (with_reducible repeat (first | refine blk_drewN ?_ _ | refine blk_drew ?_ | refine blk_alloc ?_ _)); exact BK229.out) hb); have n3_ := Aside0.mk (blk_below (g := gb231) (o := .cells #[.int .i64 t224, .int .i64 (wrap64 (t225 + 1073741789))] 26 (0, 0)) (by (with_reducible repeat (first | refine blk_drewN ?_ _ | refine blk_drew ?_ | refine blk_alloc ?_ _)); exact BK231.out) hb); have n4_ := Aside0.mk (below_step (by repeat (first | (with_reducible first | exact HB.out | apply below_alloc | apply pw_below_drewN | apply below_drew1 | refine below_set ?_ GE220.out | refine below_set ?_ GE227.out | refine below_set ?_ GE229.out | refine below_set ?_ GE231.out) | exact HB.out)) hb); clear BK220; clear BK227; clear BK229; clear BK231; clear HB; have BK220 := n0_; have BK227 := n1_; have BK229 := n2_; have BK231 := n3_; have HB := n4_; clear n0_ n1_ n2_ n3_ n4_; (try clear hb); (try clear hb2); (try clear hk); (try clear hi)) | (go_at_call 21; (with_reducible refine (awardingbodylaw41_sane.calls kj6  t234 _ A66.out).mono ?_); rintro e w88 ⟨rfl, hb⟩; have n0_ := Aside0.mk (blk_below (g := gb220) (o := .cells #[.int .u32 a1_0, .int .u32 a1_1, .int .u32 a1_2, .int .u32 a1_3] 24 (0, 0)) (by (with_reducible repeat (first | refine blk_drewN ?_ _ | refine blk_drew ?_ | refine blk_alloc ?_ _)); exact BK220.out) hb); have n1_ := Aside0.mk (blk_below (g := gb227) (o := .cells #[.int .i64 t224, .int .i64 t225] 26 (0, 0)) (by (with_reducible repeat (first | refine blk_drewN ?_ _ | refine blk_drew ?_ | refine blk_alloc ?_ _)); exact BK227.out) hb); have n2_ := Aside0.mk (blk_below (g := gb229) (o := .cells #[.int .i64 t224, .int .i64 (Int.tmod (wrap64 ((wrap64 (t225 + 1)) + t230)) 1073741789)] 26 (0, 0)) (by (with_reducible repeat (first | refine blk_drewN ?_ _ | refine blk_drew ?_ | refine blk_alloc ?_ _)); exact BK229.out) hb); have n3_ := Aside0.mk (blk_below (g := gb231) (o := .cells #[.int .i64 t224, .int .i64 (wrap64 (t225 + 1073741789))] 26 (0, 0)) (by (with_reducible repeat (first | refine blk_drewN ?_ _ | refine blk_drew ?_ | refine blk_alloc ?_ _)); exact BK231.out) hb); have n4_ := Aside0.mk (below_step (by repeat (first | (with_reducible first | exact HB.out | apply below_alloc | apply pw_below_drewN | apply below_drew1 | refine below_set ?_ GE220.out | refine below_set ?_ GE227.out | refine below_set ?_ GE229.out | refine below_set ?_ GE231.out) | exact HB.out)) hb); clear BK220; clear BK227; clear BK229; clear BK231; clear HB; have BK220 := n0_; have BK227 := n1_; have BK229 := n2_; have BK231 := n3_; have HB := n4_; clear n0_ n1_ n2_ n3_ n4_; (try clear hb); (try clear hb2); (try clear hk); (try clear hi)))
            go_ret
            exact ⟨by first | rfl | (simp [errW_none, errW_some] <;> rfl) | (simp [*, errW_none, errW_some] <;> rfl), by repeat (first | (with_reducible first | exact HB.out | apply below_alloc | apply pw_below_drewN | apply below_drew1 | refine below_set ?_ GE220.out | refine below_set ?_ GE227.out | refine below_set ?_ GE229.out | refine below_set ?_ GE231.out) | exact HB.out)⟩

/-- THE ONE PURE STATEMENT of awardingbodylaw41_SignatureHolds. -/
def awardingbodylaw41_SignatureHolds.Pure : Prop := ∀ (a0 : Int) (a1_0 : Int) (a1_1 : Int) (a1_2 : Int) (a1_3 : Int) (a2 : Int), (Lit.int .i64 a0).wf = true → (Lit.int .u32 a1_0).wf = true → (Lit.int .u32 a1_1).wf = true → (Lit.int .u32 a1_2).wf = true → (Lit.int .u32 a1_3).wf = true → (Lit.int .i64 a2).wf = true → ∃ k, awardingbodylaw41_SignatureHolds.f k a0 a1_0 a1_1 a1_2 a1_3 a2 = some true
theorem awardingbodylaw41_SignatureHolds.walk (P : awardingbodylaw41_SignatureHolds.Pure) (a0 : Int) (a1_0 : Int) (a1_1 : Int) (a1_2 : Int) (a1_3 : Int) (a2 : Int) (w : World) (w0 : (Lit.int .i64 a0).wf = true) (w1_0 : (Lit.int .u32 a1_0).wf = true) (w1_1 : (Lit.int .u32 a1_1).wf = true) (w1_2 : (Lit.int .u32 a1_2).wf = true) (w1_3 : (Lit.int .u32 a1_3).wf = true) (w2 : (Lit.int .i64 a2).wf = true) :
    Calls Try.prog 4 #[.int .i64 a0, .agg #[.int .u32 a1_0, .int .u32 a1_1, .int .u32 a1_2, .int .u32 a1_3], .int .i64 a2] w fun e w' => e = .returned (.bool true) ∧ Below w.heap.size w w' := by
  obtain ⟨k, h⟩ := P a0 a1_0 a1_1 a1_2 a1_3 a2 w0 w1_0 w1_1 w1_2 w1_3 w2
  refine (awardingbodylaw41_SignatureHolds.calls k a0 a1_0 a1_1 a1_2 a1_3 a2 true w h).mono ?_
  rintro e w' ⟨rfl, hd⟩
  exact ⟨rfl, hd⟩

end Go.Proofs.Ytijmmnlhbbmhlaa.XA
