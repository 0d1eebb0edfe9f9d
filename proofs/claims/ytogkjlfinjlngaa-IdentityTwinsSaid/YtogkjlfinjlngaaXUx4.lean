/- Go functions of the program as plain Lean functions with a number of rounds, and that the calls come to exactly their answers. Conditions: those in each theorem. Written by a program of this project (wip/tools/xprint.py). -/
import Derived.Test.YtogkjlfinjlngaaXUx0
import Derived.Test.YtogkjlfinjlngaaXUx2
import Derived.Test.YtogkjlfinjlngaaXUx3
namespace Go.Proofs.Ytogkjlfinjlngaa.XU
open Go.RowKit Go.Proofs.Ytogkjlfinjlngaa.Ix Go.Proofs.YtogkjlfinjlngaaW.PrintWords Go.Proofs.YtogkjlfinjlngaaW.PrintLast Go.Proofs.YtogkjlfinjlngaaW.PrintMore
attribute [local go_sem] max2_int min2_int max_two min_two max_three min_three max_four min_four   -- for this text's walks alone
set_option linter.unusedVariables false
set_option linter.unusedSimpArgs false

/-! ### awardingbodylaw04_number: function 20 -/
def awardingbodylaw04_number.f (k : Nat) (a0 : Int) : Option (ByteArray) := (awardingbodymake_Cut.f a0 100000000).bind fun t149 => ((awardingbodyref04_Format.f k (wrap64 (Int.tdiv t149 1000000)) (Int.tmod (wrap64 (Int.tdiv t149 10000)) 100) (Int.tmod t149 10000)).bind fun bt150 => (some bt150.1))
theorem awardingbodylaw04_number.mono : ∀ a0 k, LeO (awardingbodylaw04_number.f k a0) (awardingbodylaw04_number.f (k + 1) a0) := by
  intro a0 k
  unfold awardingbodylaw04_number.f
  repeat' first
      | (with_reducible exact awardingbodyref04_Format.mono _ _ _ _)
      | (with_reducible exact LeO.refl _)
      | (with_reducible exact LeO.none _)
      | (with_reducible refine LeO.ite ?_ ?_)
      | (with_reducible refine LeO.bind ?_ (fun _ => ?_))
      | exact awardingbodyref04_Format.mono _ _ _ _
      | exact LeO.none _
      | refine LeO.ite ?_ ?_
      | refine LeO.bind ?_ (fun _ => ?_)
set_option maxHeartbeats 8000000 in
set_option maxRecDepth 100000 in
theorem awardingbodylaw04_number.calls (k : Nat) (a0 : Int) (r : ByteArray) (w : World) (h : awardingbodylaw04_number.f k a0 = some r) :
    Calls Try.prog 20 #[.int .i64 a0] w fun e w' => e = .returned (.string r) ∧ Below w.heap.size w w' := by
  have hu23 := Try.underlying23
  have HB := Aside0.mk (Below.refl w.heap.size w)
  have H : ((awardingbodymake_Cut.f a0 100000000).bind fun t149 => ((awardingbodyref04_Format.f k (wrap64 (Int.tdiv t149 1000000)) (Int.tmod (wrap64 (Int.tdiv t149 10000)) 100) (Int.tmod t149 10000)).bind fun bt150 => (some bt150.1))) = some r := h
  clear h
  replace H := Option.bind_eq_some_iff.mp H
  obtain ⟨t149, A20, H⟩ := H
  replace H : ((awardingbodyref04_Format.f k (wrap64 (Int.tdiv t149 1000000)) (Int.tmod (wrap64 (Int.tdiv t149 10000)) 100) (Int.tmod t149 10000)).bind fun bt150 => (some bt150.1)) = some r := H
  have A2 := Aside0.mk A20
  clear A20
  replace H := Option.bind_eq_some_iff.mp H
  obtain ⟨⟨t150, t151⟩, A30, H⟩ := H
  replace H : (some t150) = some r := H
  have A3 := Aside0.mk A30
  clear A30
  obtain rfl := Option.some.inj H
  go_enter Try.func20, Try.ntmps20
  go_wp2_with (first | ((with_reducible refine gate_callee (f := 12) rfl ?_); refine goesL_ (some 6) rfl rfl Try.func12 (by kernel_rfl) rfl #[.int .i64 a0, .int .i64 100000000] rfl (by (try simp only [List.map_toArray, List.map_cons, List.map_nil]); first | done | rfl | (simp only [List.length_drop, List.length_take]; rfl)) ?_; (with_reducible refine (awardingbodymake_Cut.calls a0 100000000 t149 _ A2.out).mono ?_); rintro e w' ⟨rfl, ⟨nd, rfl⟩⟩; refine ⟨_, rfl, ?_⟩) | ((with_reducible refine gate_callee (f := 14) rfl ?_); refine goesL_ (some 16) rfl rfl Try.func14 (by kernel_rfl) rfl #[.agg #[.int .i64 (wrap64 (Int.tdiv t149 1000000)), .int .i64 (Int.tmod (wrap64 (Int.tdiv t149 10000)) 100), .int .i64 (Int.tmod t149 10000)]] rfl (by (try simp only [List.map_toArray, List.map_cons, List.map_nil]); first | done | rfl | (simp only [List.length_drop, List.length_take]; rfl)) ?_; (with_reducible refine (awardingbodyref04_Format.calls k (wrap64 (Int.tdiv t149 1000000)) (Int.tmod (wrap64 (Int.tdiv t149 10000)) 100) (Int.tmod t149 10000) t150 t151 _ A3.out).mono ?_); rintro e w4 ⟨rfl, hb⟩; refine ⟨_, rfl, ?_⟩; have n0_ := Aside0.mk (below_step (by repeat (first | (with_reducible first | exact HB.out | apply below_alloc | apply pw_below_drewN | apply below_drew1) | exact HB.out)) hb); clear HB; have HB := n0_; clear n0_; (try clear hb); (try clear hb2); (try clear hk); (try clear hi)))
  go_ret
  exact ⟨by first | rfl | (simp [errW_none, errW_some] <;> rfl) | (simp [*, errW_none, errW_some] <;> rfl), by repeat (first | (with_reducible first | exact HB.out | apply below_alloc | apply pw_below_drewN | apply below_drew1) | exact HB.out)⟩

/-! ### identity_Letter: function 21 -/
def identity_Letter.f (k : Nat) (a0 : ByteArray) : Option (ByteArray × Int) := if a0.size + 1 ≤ 9223372036854775807 then ((identity_read.f k (a0 ++ (⟨#[65]⟩ : ByteArray)) (⟨#[]⟩ : ByteArray)).bind fun bt152 => (if bt152.2.2.2.2.2.2.2.2.2 = true then ((identity_number_check.f k bt152.1 bt152.2.1 bt152.2.2.1 bt152.2.2.2.1 bt152.2.2.2.2.1 bt152.2.2.2.2.2.1 bt152.2.2.2.2.2.2.1 bt152.2.2.2.2.2.2.2.1 bt152.2.2.2.2.2.2.2.2.1).bind fun t163 => (some (strOfNums (([t163] : List Int)), 0))) else (some ((⟨#[]⟩ : ByteArray), 7)))) else (none)
theorem identity_Letter.mono : ∀ a0 k, LeO (identity_Letter.f k a0) (identity_Letter.f (k + 1) a0) := by
  intro a0 k
  unfold identity_Letter.f
  repeat' first
      | (with_reducible exact identity_number_check.mono _ _ _ _ _ _ _ _ _ _)
      | (with_reducible exact identity_read.mono _ _ _)
      | (with_reducible exact LeO.refl _)
      | (with_reducible exact LeO.none _)
      | (with_reducible refine LeO.ite ?_ ?_)
      | (with_reducible refine LeO.bind ?_ (fun _ => ?_))
      | exact identity_number_check.mono _ _ _ _ _ _ _ _ _ _
      | exact identity_read.mono _ _ _
      | exact LeO.none _
      | refine LeO.ite ?_ ?_
      | refine LeO.bind ?_ (fun _ => ?_)
set_option maxHeartbeats 8000000 in
set_option maxRecDepth 100000 in
theorem identity_Letter.calls (k : Nat) (a0 : ByteArray) (r1 : ByteArray) (r2 : Int) (w : World) (h : identity_Letter.f k a0 = some (r1, r2)) :
    Calls Try.prog 21 #[.string a0] w fun e w' => e = .returned (.tuple #[.string r1, .int .i64 r2]) ∧ Below w.heap.size w w' := by
  have hu43 := Try.underlying43
  have HB := Aside0.mk (Below.refl w.heap.size w)
  have H : (if a0.size + 1 ≤ 9223372036854775807 then ((identity_read.f k (a0 ++ (⟨#[65]⟩ : ByteArray)) (⟨#[]⟩ : ByteArray)).bind fun bt152 => (if bt152.2.2.2.2.2.2.2.2.2 = true then ((identity_number_check.f k bt152.1 bt152.2.1 bt152.2.2.1 bt152.2.2.2.1 bt152.2.2.2.2.1 bt152.2.2.2.2.2.1 bt152.2.2.2.2.2.2.1 bt152.2.2.2.2.2.2.2.1 bt152.2.2.2.2.2.2.2.2.1).bind fun t163 => (some (strOfNums (([t163] : List Int)), 0))) else (some ((⟨#[]⟩ : ByteArray), 7)))) else (none)) = some (r1, r2) := h
  clear h
  by_cases c2 : a0.size + 1 ≤ 9223372036854775807
  · rw [if_pos c2] at H
    have c2b0 := eq_true c2
    have c2b1 : decide (a0.size + 1 ≤ 9223372036854775807) = true := decide_eq_true c2
    try have c2b2 : (9223372036854775807 < a0.size + 1) = False := eq_false (Nat.not_lt.2 c2)
    replace H := Option.bind_eq_some_iff.mp H
    obtain ⟨⟨t152, t153, t154, t155, t156, t157, t158, t159, t160, t161⟩, A30, H⟩ := H
    replace H : (if t161 = true then ((identity_number_check.f k t152 t153 t154 t155 t156 t157 t158 t159 t160).bind fun t163 => (some (strOfNums (([t163] : List Int)), 0))) else (some ((⟨#[]⟩ : ByteArray), 7))) = some (r1, r2) := H
    have A3 := Aside0.mk A30
    clear A30
    by_cases c4 : t161 = true
    · subst c4
      have H1 : ((identity_number_check.f k t152 t153 t154 t155 t156 t157 t158 t159 t160).bind fun t163 => (some (strOfNums (([t163] : List Int)), 0))) = some (r1, r2) := by rw [if_pos rfl] at H; exact H
      clear H
      have H := H1
      clear H1
      replace H := Option.bind_eq_some_iff.mp H
      obtain ⟨t163, A50, H⟩ := H
      replace H : (some (strOfNums (([t163] : List Int)), 0)) = some (r1, r2) := H
      have A5 := Aside0.mk A50
      clear A50
      obtain ⟨y164, hy164⟩ : ∃ y_ : List Int, y_ = (([t163] : List Int)) := ⟨_, rfl⟩
      replace H : (some (strOfNums y164, 0)) = some (r1, r2) := by first | (rw [hy164]; with_reducible exact H) | (have H2_ := (Option.bind_some _ _).symm.trans H; rw [hy164]; with_reducible exact H2_) | (have H2_ := (Option.bind_some _ _).symm.trans H; with_reducible exact H2_) | with_reducible exact H | (rw [hy164]; exact H) | exact H
      have Ny164 := Aside0.mk hy164
      clear hy164
      simp only [Option.some.injEq, Prod.mk.injEq] at H
      obtain ⟨rfl, rfl⟩ := H
      go_enter Try.func21, Try.ntmps21
      go_wp2_with (first | ((with_reducible refine gate_callee (f := 30) rfl ?_); refine goesL_ (some 9) rfl rfl Try.func30 (by kernel_rfl) rfl #[.string (a0 ++ (⟨#[65]⟩ : ByteArray)), .string (⟨#[]⟩ : ByteArray)] rfl (by (try simp only [List.map_toArray, List.map_cons, List.map_nil]); first | done | rfl | (simp only [List.length_drop, List.length_take]; rfl)) ?_; (with_reducible refine (identity_read.calls k (a0 ++ (⟨#[65]⟩ : ByteArray)) (⟨#[]⟩ : ByteArray) t152 t153 t154 t155 t156 t157 t158 t159 t160 true _ A3.out).mono ?_); rintro e w6 ⟨rfl, hb⟩; refine ⟨_, rfl, ?_⟩; have n0_ := Aside0.mk (below_step (by repeat (first | (with_reducible first | exact HB.out | apply below_alloc | apply pw_below_drewN | apply below_drew1) | exact HB.out)) hb); clear HB; have HB := n0_; clear n0_; (try clear hb); (try clear hb2); (try clear hk); (try clear hi)) | ((with_reducible refine gate_dst (N := 4) rfl ?_); refine box_event ?hg (N := 4) ?hd (cs := #[.int .u8 0, .int .u8 0, .int .u8 0, .int .u8 0, .int .u8 0, .int .u8 0, .int .u8 0, .int .u8 0, .int .u8 0]) (t := 43) ?hr ?_; (case hd => rfl); (case hg => rfl); (case hr => first | (go_simp; done) | (go_simp; rfl)); intro gb162 hg w7 hbox hb; have n0_ := Aside0.mk (below_step (by repeat (first | (with_reducible first | exact HB.out | apply below_alloc | apply pw_below_drewN | apply below_drew1) | exact HB.out)) hb); have n1_ := Aside0.mk (hbox); have n2_ := Aside0.mk ((by rw [hg]; exact (below_size (by repeat (first | (with_reducible first | exact HB.out | apply below_alloc | apply pw_below_drewN | apply below_drew1) | exact HB.out))) : w.heap.size ≤ gb162)); have n3_ := Aside0.mk ((by rw [hg]; exact (below_size (by repeat (first | (with_reducible first | exact HB.out | apply below_alloc | apply pw_below_drewN | apply below_drew1) | exact HB.out))) : w.heap.size ≤ gb162)); clear HB; have HB := n0_; have BK162 := n1_; have GW162 := n2_; have GE162 := n3_; clear n0_ n1_ n2_ n3_; clear hb hbox hg; have hcz8_0 : w7.cell? ⟨gb162, 0, none⟩ = some (.int .u8 0) := (blk_cell BK162.out 0).trans rfl; have hcz8_1 : w7.cell? ⟨gb162, 1, none⟩ = some (.int .u8 0) := (blk_cell BK162.out 1).trans rfl; have hcz8_2 : w7.cell? ⟨gb162, 2, none⟩ = some (.int .u8 0) := (blk_cell BK162.out 2).trans rfl; have hcz8_3 : w7.cell? ⟨gb162, 3, none⟩ = some (.int .u8 0) := (blk_cell BK162.out 3).trans rfl; have hcz8_4 : w7.cell? ⟨gb162, 4, none⟩ = some (.int .u8 0) := (blk_cell BK162.out 4).trans rfl; have hcz8_5 : w7.cell? ⟨gb162, 5, none⟩ = some (.int .u8 0) := (blk_cell BK162.out 5).trans rfl; have hcz8_6 : w7.cell? ⟨gb162, 6, none⟩ = some (.int .u8 0) := (blk_cell BK162.out 6).trans rfl; have hcz8_7 : w7.cell? ⟨gb162, 7, none⟩ = some (.int .u8 0) := (blk_cell BK162.out 7).trans rfl; have hcz8_8 : w7.cell? ⟨gb162, 8, none⟩ = some (.int .u8 0) := (blk_cell BK162.out 8).trans rfl; have hfz8_0 := blk_frozen BK162.out 0; have hfz8_1 := blk_frozen BK162.out 1; have hfz8_2 := blk_frozen BK162.out 2; have hfz8_3 := blk_frozen BK162.out 3; have hfz8_4 := blk_frozen BK162.out 4; have hfz8_5 := blk_frozen BK162.out 5; have hfz8_6 := blk_frozen BK162.out 6; have hfz8_7 := blk_frozen BK162.out 7; have hfz8_8 := blk_frozen BK162.out 8) | ((with_reducible refine gate_callee (f := 28) rfl ?_); refine goesL_ (some 15) rfl rfl Try.func28 (by kernel_rfl) rfl #[.agg #[.int .u8 t152, .int .u8 t153, .int .u8 t154, .int .u8 t155, .int .u8 t156, .int .u8 t157, .int .u8 t158, .int .u8 t159, .int .u8 t160]] rfl (by (try simp only [List.map_toArray, List.map_cons, List.map_nil]); first | done | rfl | (simp only [List.length_drop, List.length_take]; rfl)) ?_; (with_reducible refine (identity_number_check.calls k t152 t153 t154 t155 t156 t157 t158 t159 t160 t163 _ A5.out).mono ?_); rintro e w9 ⟨rfl, hb⟩; refine ⟨_, rfl, ?_⟩; have n0_ := Aside0.mk (blk_below (g := gb162) (o := .cells #[.int .u8 t152, .int .u8 t153, .int .u8 t154, .int .u8 t155, .int .u8 t156, .int .u8 t157, .int .u8 t158, .int .u8 t159, .int .u8 t160] 43 (0, 0)) (by (with_reducible repeat (first | refine blk_drewN ?_ _ | refine blk_drew ?_ | refine blk_alloc ?_ _)); refine blk_put (cs := #[.int .u8 t152, .int .u8 t153, .int .u8 t154, .int .u8 t155, .int .u8 t156, .int .u8 t157, .int .u8 t158, .int .u8 t159, .int .u8 0]) ?_ 8 _ rfl; (with_reducible repeat (first | refine blk_drewN ?_ _ | refine blk_drew ?_ | refine blk_alloc ?_ _)); refine blk_put (cs := #[.int .u8 t152, .int .u8 t153, .int .u8 t154, .int .u8 t155, .int .u8 t156, .int .u8 t157, .int .u8 t158, .int .u8 0, .int .u8 0]) ?_ 7 _ rfl; (with_reducible repeat (first | refine blk_drewN ?_ _ | refine blk_drew ?_ | refine blk_alloc ?_ _)); refine blk_put (cs := #[.int .u8 t152, .int .u8 t153, .int .u8 t154, .int .u8 t155, .int .u8 t156, .int .u8 t157, .int .u8 0, .int .u8 0, .int .u8 0]) ?_ 6 _ rfl; (with_reducible repeat (first | refine blk_drewN ?_ _ | refine blk_drew ?_ | refine blk_alloc ?_ _)); refine blk_put (cs := #[.int .u8 t152, .int .u8 t153, .int .u8 t154, .int .u8 t155, .int .u8 t156, .int .u8 0, .int .u8 0, .int .u8 0, .int .u8 0]) ?_ 5 _ rfl; (with_reducible repeat (first | refine blk_drewN ?_ _ | refine blk_drew ?_ | refine blk_alloc ?_ _)); refine blk_put (cs := #[.int .u8 t152, .int .u8 t153, .int .u8 t154, .int .u8 t155, .int .u8 0, .int .u8 0, .int .u8 0, .int .u8 0, .int .u8 0]) ?_ 4 _ rfl; (with_reducible repeat (first | refine blk_drewN ?_ _ | refine blk_drew ?_ | refine blk_alloc ?_ _)); refine blk_put (cs := #[.int .u8 t152, .int .u8 t153, .int .u8 t154, .int .u8 0, .int .u8 0, .int .u8 0, .int .u8 0, .int .u8 0, .int .u8 0]) ?_ 3 _ rfl; (with_reducible repeat (first | refine blk_drewN ?_ _ | refine blk_drew ?_ | refine blk_alloc ?_ _)); refine blk_put (cs := #[.int .u8 t152, .int .u8 t153, .int .u8 0, .int .u8 0, .int .u8 0, .int .u8 0, .int .u8 0, .int .u8 0, .int .u8 0]) ?_ 2 _ rfl; (with_reducible repeat (first | refine blk_drewN ?_ _ | refine blk_drew ?_ | refine blk_alloc ?_ _)); refine blk_put (cs := #[.int .u8 t152, .int .u8 0, .int .u8 0, .int .u8 0, .int .u8 0, .int .u8 0, .int .u8 0, .int .u8 0, .int .u8 0]) ?_ 1 _ rfl; (with_reducible repeat (first | refine blk_drewN ?_ _ | refine blk_drew ?_ | refine blk_alloc ?_ _)); refine blk_put (cs := #[.int .u8 0, .int .u8 0, .int .u8 0, .int .u8 0, .int .u8 0, .int .u8 0, .int .u8 0, .int .u8 0, .int .u8 0]) ?_ 0 _ rfl; (with_reducible repeat (first | refine blk_drewN ?_ _ | refine blk_drew ?_ | refine blk_alloc ?_ _)); exact BK162.out) hb); have n1_ := Aside0.mk (below_step (by repeat (first | (with_reducible first | exact HB.out | apply below_alloc | apply pw_below_drewN | apply below_drew1 | refine below_set ?_ GE162.out) | exact HB.out)) hb); clear BK162; clear HB; have BK162 := n0_; have HB := n1_; clear n0_ n1_; (try clear hb); (try clear hb2); (try clear hk); (try clear hi)) | ((with_reducible refine gate_dst (N := 16) rfl ?_); refine Kd.R_lit (Kd.int .u8) _ 5 ?hg (N := 16) ?hd (xs := ([t163] : List Int)) (inner := [.int .u8 t163]) (ok := fun _ => True) (okp := fun _ => True) ?hr ?hp (fun _ hk => hk) trivial (Below.refl _ _) (Nat.le_refl _) (by simp) ?_; (case hd => rfl); (case hg => rfl); (case hr => first | (go_simp; done) | (go_simp; rfl)); (case hp => exact (Reps.one (show Kd.M (Kd.int .u8) _ _ _ t163 [.int .u8 t163] from rfl) (Reps.none _ _))); intro v165 w10 ho11 hb hg_ hnew_; clear hg_ hnew_; (first | rw [← Ny164.out] at ho11 | (simp only [Int.reduceToNat] at ho11; rw [← Ny164.out] at ho11)); have n0_ := Aside0.mk (Kd.R_lower ho11 (below_size (by repeat (first | (with_reducible first | exact HB.out | apply below_alloc | apply pw_below_drewN | apply below_drew1 | refine below_set ?_ GE162.out) | exact HB.out)))); have n1_ := Aside0.mk (blk_below (g := gb162) (o := .cells #[.int .u8 t152, .int .u8 t153, .int .u8 t154, .int .u8 t155, .int .u8 t156, .int .u8 t157, .int .u8 t158, .int .u8 t159, .int .u8 t160] 43 (0, 0)) (by (with_reducible repeat (first | refine blk_drewN ?_ _ | refine blk_drew ?_ | refine blk_alloc ?_ _)); exact BK162.out) hb); have n2_ := Aside0.mk (below_step (by repeat (first | (with_reducible first | exact HB.out | apply below_alloc | apply pw_below_drewN | apply below_drew1 | refine below_set ?_ GE162.out) | exact HB.out)) hb); clear BK162; clear HB; have HO166 := n0_; have BK162 := n1_; have HB := n2_; clear n0_ n1_ n2_; clear hb ho11; have hcv12 := own_string (P := Try.prog) Try.underlying34 Try.underlying5 Try.underlying9 (Kd.own_of_R HO166.out)))
      go_ret2
      exact ⟨by first | rfl | (simp [errW_none, errW_some] <;> rfl) | (simp [*, errW_none, errW_some] <;> rfl), by repeat (first | (with_reducible first | exact HB.out | apply below_alloc | apply pw_below_drewN | apply below_drew1 | refine below_set ?_ GE162.out) | exact HB.out)⟩
    · replace c4 := Bool.eq_false_iff.mpr c4
      subst c4
      have H1 : (some ((⟨#[]⟩ : ByteArray), 7)) = some (r1, r2) := by rw [if_neg (show ¬ (false = true) by decide)] at H; exact H
      clear H
      have H := H1
      clear H1
      simp only [Option.some.injEq, Prod.mk.injEq] at H
      obtain ⟨rfl, rfl⟩ := H
      go_enter Try.func21, Try.ntmps21
      go_wp2_with (first | ((with_reducible refine gate_callee (f := 30) rfl ?_); refine goesL_ (some 9) rfl rfl Try.func30 (by kernel_rfl) rfl #[.string (a0 ++ (⟨#[65]⟩ : ByteArray)), .string (⟨#[]⟩ : ByteArray)] rfl (by (try simp only [List.map_toArray, List.map_cons, List.map_nil]); first | done | rfl | (simp only [List.length_drop, List.length_take]; rfl)) ?_; (with_reducible refine (identity_read.calls k (a0 ++ (⟨#[65]⟩ : ByteArray)) (⟨#[]⟩ : ByteArray) t152 t153 t154 t155 t156 t157 t158 t159 t160 false _ A3.out).mono ?_); rintro e w13 ⟨rfl, hb⟩; refine ⟨_, rfl, ?_⟩; have n0_ := Aside0.mk (below_step (by repeat (first | (with_reducible first | exact HB.out | apply below_alloc | apply pw_below_drewN | apply below_drew1) | exact HB.out)) hb); clear HB; have HB := n0_; clear n0_; (try clear hb); (try clear hb2); (try clear hk); (try clear hi)) | ((with_reducible refine gate_dst (N := 4) rfl ?_); refine box_event ?hg (N := 4) ?hd (cs := #[.int .u8 0, .int .u8 0, .int .u8 0, .int .u8 0, .int .u8 0, .int .u8 0, .int .u8 0, .int .u8 0, .int .u8 0]) (t := 43) ?hr ?_; (case hd => rfl); (case hg => rfl); (case hr => first | (go_simp; done) | (go_simp; rfl)); intro gb162 hg w14 hbox hb; have n0_ := Aside0.mk (below_step (by repeat (first | (with_reducible first | exact HB.out | apply below_alloc | apply pw_below_drewN | apply below_drew1) | exact HB.out)) hb); have n1_ := Aside0.mk (hbox); have n2_ := Aside0.mk ((by rw [hg]; exact (below_size (by repeat (first | (with_reducible first | exact HB.out | apply below_alloc | apply pw_below_drewN | apply below_drew1) | exact HB.out))) : w.heap.size ≤ gb162)); have n3_ := Aside0.mk ((by rw [hg]; exact (below_size (by repeat (first | (with_reducible first | exact HB.out | apply below_alloc | apply pw_below_drewN | apply below_drew1) | exact HB.out))) : w.heap.size ≤ gb162)); clear HB; have HB := n0_; have BK162 := n1_; have GW162 := n2_; have GE162 := n3_; clear n0_ n1_ n2_ n3_; clear hb hbox hg; have hcz15_0 : w14.cell? ⟨gb162, 0, none⟩ = some (.int .u8 0) := (blk_cell BK162.out 0).trans rfl; have hcz15_1 : w14.cell? ⟨gb162, 1, none⟩ = some (.int .u8 0) := (blk_cell BK162.out 1).trans rfl; have hcz15_2 : w14.cell? ⟨gb162, 2, none⟩ = some (.int .u8 0) := (blk_cell BK162.out 2).trans rfl; have hcz15_3 : w14.cell? ⟨gb162, 3, none⟩ = some (.int .u8 0) := (blk_cell BK162.out 3).trans rfl; have hcz15_4 : w14.cell? ⟨gb162, 4, none⟩ = some (.int .u8 0) := (blk_cell BK162.out 4).trans rfl; have hcz15_5 : w14.cell? ⟨gb162, 5, none⟩ = some (.int .u8 0) := (blk_cell BK162.out 5).trans rfl; have hcz15_6 : w14.cell? ⟨gb162, 6, none⟩ = some (.int .u8 0) := (blk_cell BK162.out 6).trans rfl; have hcz15_7 : w14.cell? ⟨gb162, 7, none⟩ = some (.int .u8 0) := (blk_cell BK162.out 7).trans rfl; have hcz15_8 : w14.cell? ⟨gb162, 8, none⟩ = some (.int .u8 0) := (blk_cell BK162.out 8).trans rfl; have hfz15_0 := blk_frozen BK162.out 0; have hfz15_1 := blk_frozen BK162.out 1; have hfz15_2 := blk_frozen BK162.out 2; have hfz15_3 := blk_frozen BK162.out 3; have hfz15_4 := blk_frozen BK162.out 4; have hfz15_5 := blk_frozen BK162.out 5; have hfz15_6 := blk_frozen BK162.out 6; have hfz15_7 := blk_frozen BK162.out 7; have hfz15_8 := blk_frozen BK162.out 8))
      go_ret2
      exact ⟨by first | rfl | (simp [errW_none, errW_some] <;> rfl) | (simp [*, errW_none, errW_some] <;> rfl), by repeat (first | (with_reducible first | exact HB.out | apply below_alloc | apply pw_below_drewN | apply below_drew1 | refine below_set ?_ GE162.out) | exact HB.out)⟩
  · rw [if_neg c2] at H
    exact absurd H (by simp)

end Go.Proofs.Ytogkjlfinjlngaa.XU
