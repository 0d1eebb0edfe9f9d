/- Go functions of the program as plain Lean functions with a number of rounds, and that the calls come to exactly their answers. Conditions: those in each theorem. Written by a program of this project (wip/tools/xprint.py). -/
import Derived.Test.YtogkjlfinjlngaaXUx0
namespace Go.Proofs.Ytogkjlfinjlngaa.XU
open Go.RowKit Go.Proofs.Ytogkjlfinjlngaa.Ix Go.Proofs.YtogkjlfinjlngaaW.PrintWords Go.Proofs.YtogkjlfinjlngaaW.PrintLast Go.Proofs.YtogkjlfinjlngaaW.PrintMore
attribute [local go_sem] max2_int min2_int max_two min_two max_three min_three max_four min_four   -- for this text's walks alone
set_option linter.unusedVariables false
set_option linter.unusedSimpArgs false

/-! ### awardingbodymake_Cut: function 12 -/
def awardingbodymake_Cut.f (a0 : Int) (a1 : Int) : Option (Int) := if a1 < 1 then (some 0) else (if a1 = 0 then (none) else (if (Int.tmod a0 a1) < 0 then (some (wrap64 ((Int.tmod a0 a1) + a1))) else (some (Int.tmod a0 a1))))
set_option maxHeartbeats 8000000 in
set_option maxRecDepth 100000 in
theorem awardingbodymake_Cut.calls (a0 : Int) (a1 : Int) (r : Int) (w : World) (h : awardingbodymake_Cut.f a0 a1 = some r) :
    Calls Try.prog 12 #[.int .i64 a0, .int .i64 a1] w fun e w' => e = .returned (.int .i64 r) ∧ Drawn0 w w' := by
  have H : (if a1 < 1 then (some 0) else (if a1 = 0 then (none) else (if (Int.tmod a0 a1) < 0 then (some (wrap64 ((Int.tmod a0 a1) + a1))) else (some (Int.tmod a0 a1))))) = some r := h
  clear h
  by_cases c3 : a1 < 1
  · rw [if_pos c3] at H
    have c3b0 : decide (a1 < 1) = true := decide_eq_true c3
    clear c3
    obtain rfl := Option.some.inj H
    go_enter Try.func12, Try.ntmps12
    go_wp2
    go_ret
    exact ⟨by first | rfl | (simp; done) | (simp [*]; done), by repeat (first | exact Drawn0.refl _ | apply Drawn0.step)⟩
  · rw [if_neg c3] at H
    have c3b0 : decide (a1 < 1) = false := decide_eq_false c3
    clear c3
    by_cases c4 : a1 = 0
    · rw [if_pos c4] at H
      exact absurd H (by simp)
    · rw [if_neg c4] at H
      have c4b0 : (a1 == 0) = false := beq_eq_false_iff_ne.mpr c4
      have c4b1 : (a1 != 0) = true := bne_iff_ne.mpr c4
      by_cases c5 : (Int.tmod a0 a1) < 0
      · rw [if_pos c5] at H
        have c5b0 : decide ((Int.tmod a0 a1) < 0) = true := decide_eq_true c5
        clear c5
        obtain rfl := Option.some.inj H
        go_enter Try.func12, Try.ntmps12
        go_wp2
        go_ret
        exact ⟨by first | rfl | (simp; done) | (simp [*]; done), by repeat (first | exact Drawn0.refl _ | apply Drawn0.step)⟩
      · rw [if_neg c5] at H
        have c5b0 : decide ((Int.tmod a0 a1) < 0) = false := decide_eq_false c5
        clear c5
        obtain rfl := Option.some.inj H
        go_enter Try.func12, Try.ntmps12
        go_wp2
        go_ret
        exact ⟨by first | rfl | (simp; done) | (simp [*]; done), by repeat (first | exact Drawn0.refl _ | apply Drawn0.step)⟩

/-! ### identity_Valid: function 15 -/
def identity_Valid.f (a0_0 : Int) (a0_1 : Int) (a0_2 : Int) : Option (Bool) := if a0_0 ≥ 0 then (if a0_0 ≤ 99 then (if a0_1 ≥ 0 then (if a0_1 ≤ 99 then (if a0_2 ≥ 0 then (some (decide (a0_2 ≤ 9999))) else (some false)) else (some false)) else (some false)) else (some false)) else (some false)
set_option maxHeartbeats 8000000 in
set_option maxRecDepth 100000 in
theorem identity_Valid.calls (a0_0 : Int) (a0_1 : Int) (a0_2 : Int) (r : Bool) (w : World) (h : identity_Valid.f a0_0 a0_1 a0_2 = some r) :
    Calls Try.prog 15 #[.agg #[.int .i64 a0_0, .int .i64 a0_1, .int .i64 a0_2]] w fun e w' => e = .returned (.bool r) ∧ Below w.heap.size w w' := by
  have hu23 := Try.underlying23
  have HB := Aside0.mk (Below.refl w.heap.size w)
  have H : (if a0_0 ≥ 0 then (if a0_0 ≤ 99 then (if a0_1 ≥ 0 then (if a0_1 ≤ 99 then (if a0_2 ≥ 0 then (some (decide (a0_2 ≤ 9999))) else (some false)) else (some false)) else (some false)) else (some false)) else (some false)) = some r := h
  clear h
  by_cases c2 : a0_0 ≥ 0
  · rw [if_pos c2] at H
    have c2b0 : decide (0 ≤ a0_0) = true := decide_eq_true c2
    clear c2
    by_cases c3 : a0_0 ≤ 99
    · rw [if_pos c3] at H
      have c3b0 : decide (a0_0 ≤ 99) = true := decide_eq_true c3
      clear c3
      by_cases c4 : a0_1 ≥ 0
      · rw [if_pos c4] at H
        have c4b0 : decide (0 ≤ a0_1) = true := decide_eq_true c4
        clear c4
        by_cases c5 : a0_1 ≤ 99
        · rw [if_pos c5] at H
          have c5b0 : decide (a0_1 ≤ 99) = true := decide_eq_true c5
          clear c5
          by_cases c6 : a0_2 ≥ 0
          · rw [if_pos c6] at H
            have c6b0 : decide (0 ≤ a0_2) = true := decide_eq_true c6
            clear c6
            obtain rfl := Option.some.inj H
            go_enter Try.func15, Try.ntmps15
            go_wp2_with (first | ((with_reducible refine gate_dst (N := 1) rfl ?_); refine box_event ?hg (N := 1) ?hd (cs := #[.int .i64 a0_0, .int .i64 a0_1, .int .i64 a0_2]) (t := 23) ?hr ?_; (case hd => rfl); (case hg => rfl); (case hr => first | (go_simp; done) | (go_simp; rfl)); intro gb101 hg w7 hbox hb; have n0_ := Aside0.mk (below_step (by repeat (first | (with_reducible first | exact HB.out | apply below_alloc | apply pw_below_drewN | apply below_drew1) | exact HB.out)) hb); have n1_ := Aside0.mk (hbox); have n2_ := Aside0.mk ((by rw [hg]; exact (below_size (by repeat (first | (with_reducible first | exact HB.out | apply below_alloc | apply pw_below_drewN | apply below_drew1) | exact HB.out))) : w.heap.size ≤ gb101)); have n3_ := Aside0.mk ((by rw [hg]; exact (below_size (by repeat (first | (with_reducible first | exact HB.out | apply below_alloc | apply pw_below_drewN | apply below_drew1) | exact HB.out))) : w.heap.size ≤ gb101)); clear HB; have HB := n0_; have BK101 := n1_; have GW101 := n2_; have GE101 := n3_; clear n0_ n1_ n2_ n3_; clear hb hbox hg; have hcz8_0 : w7.cell? ⟨gb101, 0, none⟩ = some (.int .i64 a0_0) := (blk_cell BK101.out 0).trans rfl; have hcz8_1 : w7.cell? ⟨gb101, 1, none⟩ = some (.int .i64 a0_1) := (blk_cell BK101.out 1).trans rfl; have hcz8_2 : w7.cell? ⟨gb101, 2, none⟩ = some (.int .i64 a0_2) := (blk_cell BK101.out 2).trans rfl; have hfz8_0 := blk_frozen BK101.out 0; have hfz8_1 := blk_frozen BK101.out 1; have hfz8_2 := blk_frozen BK101.out 2))
            go_ret
            exact ⟨by first | rfl | (simp [errW_none, errW_some] <;> rfl) | (simp [*, errW_none, errW_some] <;> rfl), by repeat (first | (with_reducible first | exact HB.out | apply below_alloc | apply pw_below_drewN | apply below_drew1 | refine below_set ?_ GE101.out) | exact HB.out)⟩
          · rw [if_neg c6] at H
            have c6b0 : decide (0 ≤ a0_2) = false := decide_eq_false c6
            clear c6
            obtain rfl := Option.some.inj H
            go_enter Try.func15, Try.ntmps15
            go_wp2_with (first | ((with_reducible refine gate_dst (N := 1) rfl ?_); refine box_event ?hg (N := 1) ?hd (cs := #[.int .i64 a0_0, .int .i64 a0_1, .int .i64 a0_2]) (t := 23) ?hr ?_; (case hd => rfl); (case hg => rfl); (case hr => first | (go_simp; done) | (go_simp; rfl)); intro gb101 hg w9 hbox hb; have n0_ := Aside0.mk (below_step (by repeat (first | (with_reducible first | exact HB.out | apply below_alloc | apply pw_below_drewN | apply below_drew1) | exact HB.out)) hb); have n1_ := Aside0.mk (hbox); have n2_ := Aside0.mk ((by rw [hg]; exact (below_size (by repeat (first | (with_reducible first | exact HB.out | apply below_alloc | apply pw_below_drewN | apply below_drew1) | exact HB.out))) : w.heap.size ≤ gb101)); have n3_ := Aside0.mk ((by rw [hg]; exact (below_size (by repeat (first | (with_reducible first | exact HB.out | apply below_alloc | apply pw_below_drewN | apply below_drew1) | exact HB.out))) : w.heap.size ≤ gb101)); clear HB; have HB := n0_; have BK101 := n1_; have GW101 := n2_; have GE101 := n3_; clear n0_ n1_ n2_ n3_; clear hb hbox hg; have hcz10_0 : w9.cell? ⟨gb101, 0, none⟩ = some (.int .i64 a0_0) := (blk_cell BK101.out 0).trans rfl; have hcz10_1 : w9.cell? ⟨gb101, 1, none⟩ = some (.int .i64 a0_1) := (blk_cell BK101.out 1).trans rfl; have hcz10_2 : w9.cell? ⟨gb101, 2, none⟩ = some (.int .i64 a0_2) := (blk_cell BK101.out 2).trans rfl; have hfz10_0 := blk_frozen BK101.out 0; have hfz10_1 := blk_frozen BK101.out 1; have hfz10_2 := blk_frozen BK101.out 2))
            go_ret
            exact ⟨by first | rfl | (simp [errW_none, errW_some] <;> rfl) | (simp [*, errW_none, errW_some] <;> rfl), by repeat (first | (with_reducible first | exact HB.out | apply below_alloc | apply pw_below_drewN | apply below_drew1 | refine below_set ?_ GE101.out) | exact HB.out)⟩
        · rw [if_neg c5] at H
          have c5b0 : decide (a0_1 ≤ 99) = false := decide_eq_false c5
          clear c5
          obtain rfl := Option.some.inj H
          go_enter Try.func15, Try.ntmps15
          go_wp2_with (first | ((with_reducible refine gate_dst (N := 1) rfl ?_); refine box_event ?hg (N := 1) ?hd (cs := #[.int .i64 a0_0, .int .i64 a0_1, .int .i64 a0_2]) (t := 23) ?hr ?_; (case hd => rfl); (case hg => rfl); (case hr => first | (go_simp; done) | (go_simp; rfl)); intro gb101 hg w11 hbox hb; have n0_ := Aside0.mk (below_step (by repeat (first | (with_reducible first | exact HB.out | apply below_alloc | apply pw_below_drewN | apply below_drew1) | exact HB.out)) hb); have n1_ := Aside0.mk (hbox); have n2_ := Aside0.mk ((by rw [hg]; exact (below_size (by repeat (first | (with_reducible first | exact HB.out | apply below_alloc | apply pw_below_drewN | apply below_drew1) | exact HB.out))) : w.heap.size ≤ gb101)); have n3_ := Aside0.mk ((by rw [hg]; exact (below_size (by repeat (first | (with_reducible first | exact HB.out | apply below_alloc | apply pw_below_drewN | apply below_drew1) | exact HB.out))) : w.heap.size ≤ gb101)); clear HB; have HB := n0_; have BK101 := n1_; have GW101 := n2_; have GE101 := n3_; clear n0_ n1_ n2_ n3_; clear hb hbox hg; have hcz12_0 : w11.cell? ⟨gb101, 0, none⟩ = some (.int .i64 a0_0) := (blk_cell BK101.out 0).trans rfl; have hcz12_1 : w11.cell? ⟨gb101, 1, none⟩ = some (.int .i64 a0_1) := (blk_cell BK101.out 1).trans rfl; have hcz12_2 : w11.cell? ⟨gb101, 2, none⟩ = some (.int .i64 a0_2) := (blk_cell BK101.out 2).trans rfl; have hfz12_0 := blk_frozen BK101.out 0; have hfz12_1 := blk_frozen BK101.out 1; have hfz12_2 := blk_frozen BK101.out 2))
          go_ret
          exact ⟨by first | rfl | (simp [errW_none, errW_some] <;> rfl) | (simp [*, errW_none, errW_some] <;> rfl), by repeat (first | (with_reducible first | exact HB.out | apply below_alloc | apply pw_below_drewN | apply below_drew1 | refine below_set ?_ GE101.out) | exact HB.out)⟩
      · rw [if_neg c4] at H
        have c4b0 : decide (0 ≤ a0_1) = false := decide_eq_false c4
        clear c4
        obtain rfl := Option.some.inj H
        go_enter Try.func15, Try.ntmps15
        go_wp2_with (first | ((with_reducible refine gate_dst (N := 1) rfl ?_); refine box_event ?hg (N := 1) ?hd (cs := #[.int .i64 a0_0, .int .i64 a0_1, .int .i64 a0_2]) (t := 23) ?hr ?_; (case hd => rfl); (case hg => rfl); (case hr => first | (go_simp; done) | (go_simp; rfl)); intro gb101 hg w13 hbox hb; have n0_ := Aside0.mk (below_step (by repeat (first | (with_reducible first | exact HB.out | apply below_alloc | apply pw_below_drewN | apply below_drew1) | exact HB.out)) hb); have n1_ := Aside0.mk (hbox); have n2_ := Aside0.mk ((by rw [hg]; exact (below_size (by repeat (first | (with_reducible first | exact HB.out | apply below_alloc | apply pw_below_drewN | apply below_drew1) | exact HB.out))) : w.heap.size ≤ gb101)); have n3_ := Aside0.mk ((by rw [hg]; exact (below_size (by repeat (first | (with_reducible first | exact HB.out | apply below_alloc | apply pw_below_drewN | apply below_drew1) | exact HB.out))) : w.heap.size ≤ gb101)); clear HB; have HB := n0_; have BK101 := n1_; have GW101 := n2_; have GE101 := n3_; clear n0_ n1_ n2_ n3_; clear hb hbox hg; have hcz14_0 : w13.cell? ⟨gb101, 0, none⟩ = some (.int .i64 a0_0) := (blk_cell BK101.out 0).trans rfl; have hcz14_1 : w13.cell? ⟨gb101, 1, none⟩ = some (.int .i64 a0_1) := (blk_cell BK101.out 1).trans rfl; have hcz14_2 : w13.cell? ⟨gb101, 2, none⟩ = some (.int .i64 a0_2) := (blk_cell BK101.out 2).trans rfl; have hfz14_0 := blk_frozen BK101.out 0; have hfz14_1 := blk_frozen BK101.out 1; have hfz14_2 := blk_frozen BK101.out 2))
        go_ret
        exact ⟨by first | rfl | (simp [errW_none, errW_some] <;> rfl) | (simp [*, errW_none, errW_some] <;> rfl), by repeat (first | (with_reducible first | exact HB.out | apply below_alloc | apply pw_below_drewN | apply below_drew1 | refine below_set ?_ GE101.out) | exact HB.out)⟩
    · rw [if_neg c3] at H
      have c3b0 : decide (a0_0 ≤ 99) = false := decide_eq_false c3
      clear c3
      obtain rfl := Option.some.inj H
      go_enter Try.func15, Try.ntmps15
      go_wp2_with (first | ((with_reducible refine gate_dst (N := 1) rfl ?_); refine box_event ?hg (N := 1) ?hd (cs := #[.int .i64 a0_0, .int .i64 a0_1, .int .i64 a0_2]) (t := 23) ?hr ?_; (case hd => rfl); (case hg => rfl); (case hr => first | (go_simp; done) | (go_simp; rfl)); intro gb101 hg w15 hbox hb; have n0_ := Aside0.mk (below_step (by repeat (first | (with_reducible first | exact HB.out | apply below_alloc | apply pw_below_drewN | apply below_drew1) | exact HB.out)) hb); have n1_ := Aside0.mk (hbox); have n2_ := Aside0.mk ((by rw [hg]; exact (below_size (by repeat (first | (with_reducible first | exact HB.out | apply below_alloc | apply pw_below_drewN | apply below_drew1) | exact HB.out))) : w.heap.size ≤ gb101)); have n3_ := Aside0.mk ((by rw [hg]; exact (below_size (by repeat (first | (with_reducible first | exact HB.out | apply below_alloc | apply pw_below_drewN | apply below_drew1) | exact HB.out))) : w.heap.size ≤ gb101)); clear HB; have HB := n0_; have BK101 := n1_; have GW101 := n2_; have GE101 := n3_; clear n0_ n1_ n2_ n3_; clear hb hbox hg; have hcz16_0 : w15.cell? ⟨gb101, 0, none⟩ = some (.int .i64 a0_0) := (blk_cell BK101.out 0).trans rfl; have hcz16_1 : w15.cell? ⟨gb101, 1, none⟩ = some (.int .i64 a0_1) := (blk_cell BK101.out 1).trans rfl; have hcz16_2 : w15.cell? ⟨gb101, 2, none⟩ = some (.int .i64 a0_2) := (blk_cell BK101.out 2).trans rfl; have hfz16_0 := blk_frozen BK101.out 0; have hfz16_1 := blk_frozen BK101.out 1; have hfz16_2 := blk_frozen BK101.out 2))
      go_ret
      exact ⟨by first | rfl | (simp [errW_none, errW_some] <;> rfl) | (simp [*, errW_none, errW_some] <;> rfl), by repeat (first | (with_reducible first | exact HB.out | apply below_alloc | apply pw_below_drewN | apply below_drew1 | refine below_set ?_ GE101.out) | exact HB.out)⟩
  · rw [if_neg c2] at H
    have c2b0 : decide (0 ≤ a0_0) = false := decide_eq_false c2
    clear c2
    obtain rfl := Option.some.inj H
    go_enter Try.func15, Try.ntmps15
    go_wp2_with (first | ((with_reducible refine gate_dst (N := 1) rfl ?_); refine box_event ?hg (N := 1) ?hd (cs := #[.int .i64 a0_0, .int .i64 a0_1, .int .i64 a0_2]) (t := 23) ?hr ?_; (case hd => rfl); (case hg => rfl); (case hr => first | (go_simp; done) | (go_simp; rfl)); intro gb101 hg w17 hbox hb; have n0_ := Aside0.mk (below_step (by repeat (first | (with_reducible first | exact HB.out | apply below_alloc | apply pw_below_drewN | apply below_drew1) | exact HB.out)) hb); have n1_ := Aside0.mk (hbox); have n2_ := Aside0.mk ((by rw [hg]; exact (below_size (by repeat (first | (with_reducible first | exact HB.out | apply below_alloc | apply pw_below_drewN | apply below_drew1) | exact HB.out))) : w.heap.size ≤ gb101)); have n3_ := Aside0.mk ((by rw [hg]; exact (below_size (by repeat (first | (with_reducible first | exact HB.out | apply below_alloc | apply pw_below_drewN | apply below_drew1) | exact HB.out))) : w.heap.size ≤ gb101)); clear HB; have HB := n0_; have BK101 := n1_; have GW101 := n2_; have GE101 := n3_; clear n0_ n1_ n2_ n3_; clear hb hbox hg; have hcz18_0 : w17.cell? ⟨gb101, 0, none⟩ = some (.int .i64 a0_0) := (blk_cell BK101.out 0).trans rfl; have hcz18_1 : w17.cell? ⟨gb101, 1, none⟩ = some (.int .i64 a0_1) := (blk_cell BK101.out 1).trans rfl; have hcz18_2 : w17.cell? ⟨gb101, 2, none⟩ = some (.int .i64 a0_2) := (blk_cell BK101.out 2).trans rfl; have hfz18_0 := blk_frozen BK101.out 0; have hfz18_1 := blk_frozen BK101.out 1; have hfz18_2 := blk_frozen BK101.out 2))
    go_ret
    exact ⟨by first | rfl | (simp [errW_none, errW_some] <;> rfl) | (simp [*, errW_none, errW_some] <;> rfl), by repeat (first | (with_reducible first | exact HB.out | apply below_alloc | apply pw_below_drewN | apply below_drew1 | refine below_set ?_ GE101.out) | exact HB.out)⟩

/-! ### identity_number_check: function 28 -/
def identity_number_check.l0 : Nat → Int → Int → Int → Int → Int → Int → Int → Int → Int → Int → Int → Int → Option (Int)
  | 0, _, _, _, _, _, _, _, _, _, _, _, _ => none
  | k + 1, x3, x7, x8, x103000, x103001, x103002, x103003, x103004, x103005, x103006, x103007, x103008 => if x8 < x7 then (if 0 ≤ x8 then (if x8 < 8 then (identity_number_check.l0 k (wrap64 (x3 + (wrap64 ((wrap64 (x8 + 1)) * (((ix9 x8 x103000 x103001 x103002 x103003 x103004 x103005 x103006 x103007 x103008) - 48) % 256))))) x7 (wrap64 (x8 + 1)) x103000 x103001 x103002 x103003 x103004 x103005 x103006 x103007 x103008) else (none)) else (none)) else (if 0 ≤ (Int.tmod x3 23) then (if (Int.tmod x3 23) < 23 then (some (bt (⟨#[65, 66, 67, 68, 69, 70, 71, 72, 74, 75, 76, 77, 78, 80, 81, 82, 83, 84, 85, 86, 87, 88, 89]⟩ : ByteArray) (Int.tmod x3 23))) else (none)) else (none))
def identity_number_check.f (k : Nat) (a0_0 : Int) (a0_1 : Int) (a0_2 : Int) (a0_3 : Int) (a0_4 : Int) (a0_5 : Int) (a0_6 : Int) (a0_7 : Int) (a0_8 : Int) : Option (Int) := identity_number_check.l0 k 0 8 0 a0_0 a0_1 a0_2 a0_3 a0_4 a0_5 a0_6 a0_7 a0_8
theorem identity_number_check.mono_l : ∀ k, (∀ y0 y1 y2 y3 y4 y5 y6 y7 y8 y9 y10 y11, LeO (identity_number_check.l0 k y0 y1 y2 y3 y4 y5 y6 y7 y8 y9 y10 y11) (identity_number_check.l0 (k + 1) y0 y1 y2 y3 y4 y5 y6 y7 y8 y9 y10 y11))
  | 0 => fun _ _ _ _ _ _ _ _ _ _ _ _ r h => by simp [identity_number_check.l0] at h
  | k + 1 => by
    have ih0 := identity_number_check.mono_l k
    · intro y0 y1 y2 y3 y4 y5 y6 y7 y8 y9 y10 y11
      unfold identity_number_check.l0
      repeat' first
      | (with_reducible exact ih0 _ _ _ _ _ _ _ _ _ _ _ _)
      | (with_reducible exact LeO.refl _)
      | (with_reducible exact LeO.none _)
      | (with_reducible refine LeO.ite ?_ ?_)
      | (with_reducible refine LeO.bind ?_ (fun _ => ?_))
      | exact ih0 _ _ _ _ _ _ _ _ _ _ _ _
      | exact LeO.none _
      | refine LeO.ite ?_ ?_
      | refine LeO.bind ?_ (fun _ => ?_)
theorem identity_number_check.mono : ∀ a0 a1 a2 a3 a4 a5 a6 a7 a8 k, LeO (identity_number_check.f k a0 a1 a2 a3 a4 a5 a6 a7 a8) (identity_number_check.f (k + 1) a0 a1 a2 a3 a4 a5 a6 a7 a8) := by
  intro a0 a1 a2 a3 a4 a5 a6 a7 a8 k
  have ih0 := identity_number_check.mono_l k
  unfold identity_number_check.f
  repeat' first
      | (with_reducible exact ih0 _ _ _ _ _ _ _ _ _ _ _ _)
      | (with_reducible exact LeO.refl _)
      | (with_reducible exact LeO.none _)
      | (with_reducible refine LeO.ite ?_ ?_)
      | (with_reducible refine LeO.bind ?_ (fun _ => ?_))
      | exact ih0 _ _ _ _ _ _ _ _ _ _ _ _
      | exact LeO.none _
      | refine LeO.ite ?_ ?_
      | refine LeO.bind ?_ (fun _ => ?_)
set_option maxHeartbeats 8000000 in
set_option maxRecDepth 100000 in
theorem identity_number_check.calls (k : Nat) (a0_0 : Int) (a0_1 : Int) (a0_2 : Int) (a0_3 : Int) (a0_4 : Int) (a0_5 : Int) (a0_6 : Int) (a0_7 : Int) (a0_8 : Int) (r : Int) (w : World) (h : identity_number_check.f k a0_0 a0_1 a0_2 a0_3 a0_4 a0_5 a0_6 a0_7 a0_8 = some r) :
    Calls Try.prog 28 #[.agg #[.int .u8 a0_0, .int .u8 a0_1, .int .u8 a0_2, .int .u8 a0_3, .int .u8 a0_4, .int .u8 a0_5, .int .u8 a0_6, .int .u8 a0_7, .int .u8 a0_8]] w fun e w' => e = .returned (.int .u8 r) ∧ Below w.heap.size w w' := by
  have hu43 := Try.underlying43
  have HB := Aside0.mk (Below.refl w.heap.size w)
  have H : (identity_number_check.l0 k 0 8 0 a0_0 a0_1 a0_2 a0_3 a0_4 a0_5 a0_6 a0_7 a0_8) = some r := h
  clear h
  have H' := Aside0.mk H
  clear H
  go_enter Try.func28, Try.ntmps28
  go_wp2_with (first | ((with_reducible refine gate_dst (N := 1) rfl ?_); refine box_event ?hg (N := 1) ?hd (cs := #[.int .u8 a0_0, .int .u8 a0_1, .int .u8 a0_2, .int .u8 a0_3, .int .u8 a0_4, .int .u8 a0_5, .int .u8 a0_6, .int .u8 a0_7, .int .u8 a0_8]) (t := 43) ?hr ?_; (case hd => rfl); (case hg => rfl); (case hr => first | (go_simp; done) | (go_simp; rfl)); intro gb102 hg w2 hbox hb; have n0_ := Aside0.mk (below_step (by repeat (first | (with_reducible first | exact HB.out | apply below_alloc | apply pw_below_drewN | apply below_drew1) | exact HB.out)) hb); have n1_ := Aside0.mk (hbox); have n2_ := Aside0.mk ((by rw [hg]; exact (below_size (by repeat (first | (with_reducible first | exact HB.out | apply below_alloc | apply pw_below_drewN | apply below_drew1) | exact HB.out))) : w.heap.size ≤ gb102)); have n3_ := Aside0.mk ((by rw [hg]; exact (below_size (by repeat (first | (with_reducible first | exact HB.out | apply below_alloc | apply pw_below_drewN | apply below_drew1) | exact HB.out))) : w.heap.size ≤ gb102)); clear HB; have HB := n0_; have BK102 := n1_; have GW102 := n2_; have GE102 := n3_; clear n0_ n1_ n2_ n3_; clear hb hbox hg))
  go_loopg [3, 8] k (fun kq v3 v8 w' => ∃ (x3_1 : Int) (x8_1 : Int), v3 = .int .i64 x3_1 ∧ v8 = .int .i64 x8_1 ∧ Aside0 (identity_number_check.l0 kq x3_1 8 x8_1 a0_0 a0_1 a0_2 a0_3 a0_4 a0_5 a0_6 a0_7 a0_8 = some r) ∧ Aside0 (kq ≤ k) ∧ Aside0 (w'.heap[gb102]? = some (.cells #[.int .u8 a0_0, .int .u8 a0_1, .int .u8 a0_2, .int .u8 a0_3, .int .u8 a0_4, .int .u8 a0_5, .int .u8 a0_6, .int .u8 a0_7, .int .u8 a0_8] 43 (0, 0))) ∧ Aside0 (Below w.heap.size w w'))
  case atStart => exact ⟨(0), (0), (by first | rfl | (simp; done) | (simp [*]; done)), (by first | rfl | (simp; done) | (simp [*]; done)), H', ⟨Nat.le_refl _⟩, ⟨by (with_reducible repeat (first | refine blk_drewN ?_ _ | refine blk_drew ?_ | refine blk_alloc ?_ _)); exact BK102.out⟩, ⟨by repeat (first | (with_reducible first | exact HB.out | apply below_alloc | apply pw_below_drewN | apply below_drew1 | refine below_set ?_ GE102.out) | exact HB.out)⟩⟩
  case round =>
    clear H'
    try clear c2
    try clear p2
    obtain ⟨x3_1, x8_1, rfl, rfl, HA, HK1, BK102, HB⟩ := hrel
    cases gk with
    | zero => exact absurd HA.out (by simp [identity_number_check.l0])
    | succ k1 =>
      have H := HA.out
      clear HA
      simp only [identity_number_check.l0] at H
      by_cases c3 : x8_1 < 8
      · rw [if_pos c3] at H
        have c3b0 : decide (x8_1 < 8) = true := decide_eq_true c3
        clear c3
        by_cases c4 : 0 ≤ x8_1
        · rw [if_pos c4] at H
          have c4b0 : decide (0 ≤ x8_1) = true := decide_eq_true c4
          clear c4
          by_cases c5 : x8_1 < 8
          · rw [if_pos c5] at H
            have c5b0 : decide (x8_1 < 8) = true := decide_eq_true c5
            clear c5
            have H' := Aside0.mk H
            clear H
            have hcz6_0 : wr.cell? ⟨gb102, 0, none⟩ = some (.int .u8 a0_0) := (blk_cell BK102.out 0).trans rfl
            have hcz6_1 : wr.cell? ⟨gb102, 1, none⟩ = some (.int .u8 a0_1) := (blk_cell BK102.out 1).trans rfl
            have hcz6_2 : wr.cell? ⟨gb102, 2, none⟩ = some (.int .u8 a0_2) := (blk_cell BK102.out 2).trans rfl
            have hcz6_3 : wr.cell? ⟨gb102, 3, none⟩ = some (.int .u8 a0_3) := (blk_cell BK102.out 3).trans rfl
            have hcz6_4 : wr.cell? ⟨gb102, 4, none⟩ = some (.int .u8 a0_4) := (blk_cell BK102.out 4).trans rfl
            have hcz6_5 : wr.cell? ⟨gb102, 5, none⟩ = some (.int .u8 a0_5) := (blk_cell BK102.out 5).trans rfl
            have hcz6_6 : wr.cell? ⟨gb102, 6, none⟩ = some (.int .u8 a0_6) := (blk_cell BK102.out 6).trans rfl
            have hcz6_7 : wr.cell? ⟨gb102, 7, none⟩ = some (.int .u8 a0_7) := (blk_cell BK102.out 7).trans rfl
            have hcz6_8 : wr.cell? ⟨gb102, 8, none⟩ = some (.int .u8 a0_8) := (blk_cell BK102.out 8).trans rfl
            have hfz6_0 := blk_frozen BK102.out 0
            have hfz6_1 := blk_frozen BK102.out 1
            have hfz6_2 := blk_frozen BK102.out 2
            have hfz6_3 := blk_frozen BK102.out 3
            have hfz6_4 := blk_frozen BK102.out 4
            have hfz6_5 := blk_frozen BK102.out 5
            have hfz6_6 := blk_frozen BK102.out 6
            have hfz6_7 := blk_frozen BK102.out 7
            have hfz6_8 := blk_frozen BK102.out 8
            have p7 : 0 ≤ (x8_1 : Int) := of_decide_eq_true (by first | (with_reducible assumption) | assumption)
            have q7 : (x8_1 : Int) < 8 := of_decide_eq_true (by first | (with_reducible assumption) | assumption)
            have hx7 : wr.cell? ⟨gb102, (x8_1).toNat, none⟩ = some (.int .u8 (ix9 x8_1 a0_0 a0_1 a0_2 a0_3 a0_4 a0_5 a0_6 a0_7 a0_8)) := ixcell9 BK102.out (decide_eq_true p7) (decide_eq_true (Int.lt_of_lt_of_le q7 (by decide)))
            replace p7 := eq_true p7
            replace q7 := eq_true q7
            go_wp2
            go_roundg k1
            case measure => have := HK1.out; omega
            case rel => exact ⟨(wrap64 (x3_1 + (wrap64 ((wrap64 (x8_1 + 1)) * (((ix9 x8_1 a0_0 a0_1 a0_2 a0_3 a0_4 a0_5 a0_6 a0_7 a0_8) - 48) % 256))))), (wrap64 (x8_1 + 1)), (by first | rfl | (simp; done) | (simp [*]; done)), (by first | rfl | (simp; done) | (simp [*]; done)), H', ⟨by have := HK1.out; omega⟩, ⟨by (with_reducible repeat (first | refine blk_drewN ?_ _ | refine blk_drew ?_ | refine blk_alloc ?_ _)); exact BK102.out⟩, ⟨by repeat (first | (with_reducible first | exact HB.out | apply below_alloc | apply pw_below_drewN | apply below_drew1 | refine below_set ?_ GE102.out) | exact HB.out)⟩⟩
          · rw [if_neg c5] at H
            exact absurd H (by simp)
        · rw [if_neg c4] at H
          exact absurd H (by simp)
      · rw [if_neg c3] at H
        have c3b0 : decide (x8_1 < 8) = false := decide_eq_false c3
        clear c3
        obtain ⟨ji8, hji8⟩ : ∃ j_ : Int, (Int.tmod x3_1 23) = j_ := ⟨_, rfl⟩
        replace H : (if 0 ≤ (ji8) then (if (ji8) < 23 then (some (bt (⟨#[65, 66, 67, 68, 69, 70, 71, 72, 74, 75, 76, 77, 78, 80, 81, 82, 83, 84, 85, 86, 87, 88, 89]⟩ : ByteArray) (ji8))) else (none)) else (none)) = some r := by first | (rw [hji8] at H; exact H) | (simp only [hji8] at H ⊢; exact H)
        by_cases c9 : 0 ≤ (ji8)
        · rw [if_pos c9] at H
          have c9b0 : decide (0 ≤ (ji8)) = true := decide_eq_true c9
          clear c9
          by_cases c10 : (ji8) < 23
          · rw [if_pos c10] at H
            have c10b0 : decide ((ji8) < 23) = true := decide_eq_true c10
            clear c10
            obtain rfl := Option.some.inj H
            have p11 : 0 ≤ ((ji8) : Int) := of_decide_eq_true (by first | (with_reducible assumption) | assumption)
            have q11 : (ji8) < (23 : Int) := of_decide_eq_true (by first | (with_reducible assumption) | assumption)
            have hx11 := bt_at (⟨#[65, 66, 67, 68, 69, 70, 71, 72, 74, 75, 76, 77, 78, 80, 81, 82, 83, 84, 85, 86, 87, 88, 89]⟩ : ByteArray) (ji8)
            replace p11 := eq_true p11
            replace q11 := eq_true q11
            go_wp2
            go_ret
            exact ⟨by first | rfl | (simp [errW_none, errW_some] <;> rfl) | (simp only [← hji8]; first | rfl | (simp [errW_none, errW_some] <;> rfl)) | (simp [*, errW_none, errW_some] <;> rfl), by repeat (first | (with_reducible first | exact HB.out | apply below_alloc | apply pw_below_drewN | apply below_drew1 | refine below_set ?_ GE102.out) | exact HB.out)⟩
          · rw [if_neg c10] at H
            exact absurd H (by simp)
        · rw [if_neg c9] at H
          exact absurd H (by simp)

/-! ### identity_Format: function 13 -/
def identity_Format.l0 : Nat → Int → Int → Int → Int → Int → Int → Int → Int → Int → Int → Int → Option (ByteArray × Int)
  | 0, _, _, _, _, _, _, _, _, _, _, _ => none
  | k + 1, x5, x6, x107000, x107001, x107002, x107003, x107004, x107005, x107006, x107007, x107008 => if x6 ≥ 0 then (if 0 ≤ (Int.tmod x5 10) then (if (Int.tmod x5 10) < 10 then (if 0 ≤ x6 then (if x6 < 9 then (identity_Format.l0 k (wrap64 (Int.tdiv x5 10)) (wrap64 (x6 - 1)) (sx 0 x6 (bt (⟨#[48, 49, 50, 51, 52, 53, 54, 55, 56, 57]⟩ : ByteArray) (Int.tmod x5 10)) x107000) (sx 1 x6 (bt (⟨#[48, 49, 50, 51, 52, 53, 54, 55, 56, 57]⟩ : ByteArray) (Int.tmod x5 10)) x107001) (sx 2 x6 (bt (⟨#[48, 49, 50, 51, 52, 53, 54, 55, 56, 57]⟩ : ByteArray) (Int.tmod x5 10)) x107002) (sx 3 x6 (bt (⟨#[48, 49, 50, 51, 52, 53, 54, 55, 56, 57]⟩ : ByteArray) (Int.tmod x5 10)) x107003) (sx 4 x6 (bt (⟨#[48, 49, 50, 51, 52, 53, 54, 55, 56, 57]⟩ : ByteArray) (Int.tmod x5 10)) x107004) (sx 5 x6 (bt (⟨#[48, 49, 50, 51, 52, 53, 54, 55, 56, 57]⟩ : ByteArray) (Int.tmod x5 10)) x107005) (sx 6 x6 (bt (⟨#[48, 49, 50, 51, 52, 53, 54, 55, 56, 57]⟩ : ByteArray) (Int.tmod x5 10)) x107006) (sx 7 x6 (bt (⟨#[48, 49, 50, 51, 52, 53, 54, 55, 56, 57]⟩ : ByteArray) (Int.tmod x5 10)) x107007) (sx 8 x6 (bt (⟨#[48, 49, 50, 51, 52, 53, 54, 55, 56, 57]⟩ : ByteArray) (Int.tmod x5 10)) x107008)) else (none)) else (none)) else (none)) else (none)) else ((identity_number_check.f k x107000 x107001 x107002 x107003 x107004 x107005 x107006 x107007 x107008).bind fun t109 => (some (strOfNums [x107000, x107001, x107002, x107003, x107004, x107005, x107006, x107007, t109], 0)))
def identity_Format.f (k : Nat) (a0_0 : Int) (a0_1 : Int) (a0_2 : Int) : Option (ByteArray × Int) := (identity_Valid.f a0_0 a0_1 a0_2).bind fun t105 => (if t105 = true then (identity_Format.l0 k (wrap64 ((wrap64 ((wrap64 ((wrap64 (a0_0 * 100)) + a0_1)) * 10000)) + a0_2)) 7 0 0 0 0 0 0 0 0 0) else (some ((⟨#[]⟩ : ByteArray), 2)))
theorem identity_Format.mono_l : ∀ k, (∀ y0 y1 y2 y3 y4 y5 y6 y7 y8 y9 y10, LeO (identity_Format.l0 k y0 y1 y2 y3 y4 y5 y6 y7 y8 y9 y10) (identity_Format.l0 (k + 1) y0 y1 y2 y3 y4 y5 y6 y7 y8 y9 y10))
  | 0 => fun _ _ _ _ _ _ _ _ _ _ _ r h => by simp [identity_Format.l0] at h
  | k + 1 => by
    have ih0 := identity_Format.mono_l k
    · intro y0 y1 y2 y3 y4 y5 y6 y7 y8 y9 y10
      unfold identity_Format.l0
      repeat' first
      | (with_reducible exact ih0 _ _ _ _ _ _ _ _ _ _ _)
      | (with_reducible exact identity_number_check.mono _ _ _ _ _ _ _ _ _ _)
      | (with_reducible exact LeO.refl _)
      | (with_reducible exact LeO.none _)
      | (with_reducible refine LeO.ite ?_ ?_)
      | (with_reducible refine LeO.bind ?_ (fun _ => ?_))
      | exact ih0 _ _ _ _ _ _ _ _ _ _ _
      | exact identity_number_check.mono _ _ _ _ _ _ _ _ _ _
      | exact LeO.none _
      | refine LeO.ite ?_ ?_
      | refine LeO.bind ?_ (fun _ => ?_)
theorem identity_Format.mono : ∀ a0 a1 a2 k, LeO (identity_Format.f k a0 a1 a2) (identity_Format.f (k + 1) a0 a1 a2) := by
  intro a0 a1 a2 k
  have ih0 := identity_Format.mono_l k
  unfold identity_Format.f
  repeat' first
      | (with_reducible exact ih0 _ _ _ _ _ _ _ _ _ _ _)
      | (with_reducible exact identity_number_check.mono _ _ _ _ _ _ _ _ _ _)
      | (with_reducible exact LeO.refl _)
      | (with_reducible exact LeO.none _)
      | (with_reducible refine LeO.ite ?_ ?_)
      | (with_reducible refine LeO.bind ?_ (fun _ => ?_))
      | exact ih0 _ _ _ _ _ _ _ _ _ _ _
      | exact identity_number_check.mono _ _ _ _ _ _ _ _ _ _
      | exact LeO.none _
      | refine LeO.ite ?_ ?_
      | refine LeO.bind ?_ (fun _ => ?_)
set_option maxHeartbeats 8000000 in
set_option maxRecDepth 100000 in
theorem identity_Format.calls (k : Nat) (a0_0 : Int) (a0_1 : Int) (a0_2 : Int) (r1 : ByteArray) (r2 : Int) (w : World) (h : identity_Format.f k a0_0 a0_1 a0_2 = some (r1, r2)) :
    Calls Try.prog 13 #[.agg #[.int .i64 a0_0, .int .i64 a0_1, .int .i64 a0_2]] w fun e w' => e = .returned (.tuple #[.string r1, .int .i64 r2]) ∧ Below w.heap.size w w' := by
  have hu23 := Try.underlying23
  have hu43 := Try.underlying43
  have HB := Aside0.mk (Below.refl w.heap.size w)
  have H : ((identity_Valid.f a0_0 a0_1 a0_2).bind fun t105 => (if t105 = true then (identity_Format.l0 k (wrap64 ((wrap64 ((wrap64 ((wrap64 (a0_0 * 100)) + a0_1)) * 10000)) + a0_2)) 7 0 0 0 0 0 0 0 0 0) else (some ((⟨#[]⟩ : ByteArray), 2)))) = some (r1, r2) := h
  clear h
  replace H := Option.bind_eq_some_iff.mp H
  obtain ⟨t105, A20, H⟩ := H
  replace H : (if t105 = true then (identity_Format.l0 k (wrap64 ((wrap64 ((wrap64 ((wrap64 (a0_0 * 100)) + a0_1)) * 10000)) + a0_2)) 7 0 0 0 0 0 0 0 0 0) else (some ((⟨#[]⟩ : ByteArray), 2))) = some (r1, r2) := H
  have A2 := Aside0.mk A20
  clear A20
  by_cases c3 : t105 = true
  · subst c3
    have H1 : (identity_Format.l0 k (wrap64 ((wrap64 ((wrap64 ((wrap64 (a0_0 * 100)) + a0_1)) * 10000)) + a0_2)) 7 0 0 0 0 0 0 0 0 0) = some (r1, r2) := by rw [if_pos rfl] at H; exact H
    clear H
    have H := H1
    clear H1
    have H' := Aside0.mk H
    clear H
    go_enter Try.func13, Try.ntmps13
    go_wp2_with (first | ((with_reducible refine gate_dst (N := 1) rfl ?_); refine box_event ?hg (N := 1) ?hd (cs := #[.int .i64 a0_0, .int .i64 a0_1, .int .i64 a0_2]) (t := 23) ?hr ?_; (case hd => rfl); (case hg => rfl); (case hr => first | (go_simp; done) | (go_simp; rfl)); intro gb104 hg w4 hbox hb; have n0_ := Aside0.mk (below_step (by repeat (first | (with_reducible first | exact HB.out | apply below_alloc | apply pw_below_drewN | apply below_drew1) | exact HB.out)) hb); have n1_ := Aside0.mk (hbox); have n2_ := Aside0.mk ((by rw [hg]; exact (below_size (by repeat (first | (with_reducible first | exact HB.out | apply below_alloc | apply pw_below_drewN | apply below_drew1) | exact HB.out))) : w.heap.size ≤ gb104)); have n3_ := Aside0.mk ((by rw [hg]; exact (below_size (by repeat (first | (with_reducible first | exact HB.out | apply below_alloc | apply pw_below_drewN | apply below_drew1) | exact HB.out))) : w.heap.size ≤ gb104)); clear HB; have HB := n0_; have BK104 := n1_; have GW104 := n2_; have GE104 := n3_; clear n0_ n1_ n2_ n3_; clear hb hbox hg; have hcz5_0 : w4.cell? ⟨gb104, 0, none⟩ = some (.int .i64 a0_0) := (blk_cell BK104.out 0).trans rfl; have hcz5_1 : w4.cell? ⟨gb104, 1, none⟩ = some (.int .i64 a0_1) := (blk_cell BK104.out 1).trans rfl; have hcz5_2 : w4.cell? ⟨gb104, 2, none⟩ = some (.int .i64 a0_2) := (blk_cell BK104.out 2).trans rfl; have hfz5_0 := blk_frozen BK104.out 0; have hfz5_1 := blk_frozen BK104.out 1; have hfz5_2 := blk_frozen BK104.out 2) | ((with_reducible refine gate_callee (f := 15) rfl ?_); refine goesL_ (some 8) rfl rfl Try.func15 (by kernel_rfl) rfl #[.agg #[.int .i64 a0_0, .int .i64 a0_1, .int .i64 a0_2]] rfl (by (try simp only [List.map_toArray, List.map_cons, List.map_nil]); first | done | rfl | (simp only [List.length_drop, List.length_take]; rfl)) ?_; (with_reducible refine (identity_Valid.calls a0_0 a0_1 a0_2 true _ A2.out).mono ?_); rintro e w6 ⟨rfl, hb⟩; refine ⟨_, rfl, ?_⟩; have n0_ := Aside0.mk (blk_below (g := gb104) (o := .cells #[.int .i64 a0_0, .int .i64 a0_1, .int .i64 a0_2] 23 (0, 0)) (by (with_reducible repeat (first | refine blk_drewN ?_ _ | refine blk_drew ?_ | refine blk_alloc ?_ _)); exact BK104.out) hb); have n1_ := Aside0.mk (below_step (by repeat (first | (with_reducible first | exact HB.out | apply below_alloc | apply pw_below_drewN | apply below_drew1 | refine below_set ?_ GE104.out) | exact HB.out)) hb); clear BK104; clear HB; have BK104 := n0_; have HB := n1_; clear n0_ n1_; (try clear hb); (try clear hb2); (try clear hk); (try clear hi)) | ((with_reducible refine gate_dst (N := 4) rfl ?_); refine box_event ?hg (N := 4) ?hd (cs := #[.int .u8 0, .int .u8 0, .int .u8 0, .int .u8 0, .int .u8 0, .int .u8 0, .int .u8 0, .int .u8 0, .int .u8 0]) (t := 43) ?hr ?_; (case hd => rfl); (case hg => rfl); (case hr => first | (go_simp; done) | (go_simp; rfl)); intro gb106 hg w7 hbox hb; have n0_ := Aside0.mk (blk_below (g := gb104) (o := .cells #[.int .i64 a0_0, .int .i64 a0_1, .int .i64 a0_2] 23 (0, 0)) (by (with_reducible repeat (first | refine blk_drewN ?_ _ | refine blk_drew ?_ | refine blk_alloc ?_ _)); exact BK104.out) hb); have n1_ := Aside0.mk (below_step (by repeat (first | (with_reducible first | exact HB.out | apply below_alloc | apply pw_below_drewN | apply below_drew1 | refine below_set ?_ GE104.out) | exact HB.out)) hb); have n2_ := Aside0.mk (hbox); have n3_ := Aside0.mk ((by rw [hg]; exact (below_size (by repeat (first | (with_reducible first | exact HB.out | apply below_alloc | apply pw_below_drewN | apply below_drew1 | refine below_set ?_ GE104.out) | exact HB.out))) : w.heap.size ≤ gb106)); have n4_ := Aside0.mk ((by rw [hg]; exact (below_size (by repeat (first | (with_reducible first | exact HB.out | apply below_alloc | apply pw_below_drewN | apply below_drew1 | refine below_set ?_ GE104.out) | exact HB.out))) : w.heap.size ≤ gb106)); have n5_ := Aside0.mk ((by rw [hg]; exact Nat.ne_of_lt (blk_lt (g := gb104) (o := .cells #[.int .i64 a0_0, .int .i64 a0_1, .int .i64 a0_2] 23 (0, 0)) (by (with_reducible repeat (first | refine blk_drewN ?_ _ | refine blk_drew ?_ | refine blk_alloc ?_ _)); exact BK104.out)) : gb104 ≠ gb106)); have n6_ := Aside0.mk ((by rw [hg]; exact Nat.ne_of_gt (blk_lt (g := gb104) (o := .cells #[.int .i64 a0_0, .int .i64 a0_1, .int .i64 a0_2] 23 (0, 0)) (by (with_reducible repeat (first | refine blk_drewN ?_ _ | refine blk_drew ?_ | refine blk_alloc ?_ _)); exact BK104.out)) : gb106 ≠ gb104)); clear BK104; clear HB; have BK104 := n0_; have HB := n1_; have BK106 := n2_; have GW106 := n3_; have GE106 := n4_; have NB104_106 := n5_; have NB106_104 := n6_; clear n0_ n1_ n2_ n3_ n4_ n5_ n6_; clear hb hbox hg; have hnb8 := NB104_106.out; have hnc8 := NB106_104.out; have hcz9_0 : w7.cell? ⟨gb104, 0, none⟩ = some (.int .i64 a0_0) := (blk_cell BK104.out 0).trans rfl; have hcz9_1 : w7.cell? ⟨gb104, 1, none⟩ = some (.int .i64 a0_1) := (blk_cell BK104.out 1).trans rfl; have hcz9_2 : w7.cell? ⟨gb104, 2, none⟩ = some (.int .i64 a0_2) := (blk_cell BK104.out 2).trans rfl; have hfz9_0 := blk_frozen BK104.out 0; have hfz9_1 := blk_frozen BK104.out 1; have hfz9_2 := blk_frozen BK104.out 2))
    go_loopg [5, 6] k (fun kq v5 v6 w' => ∃ (x5_1 : Int) (x6_1 : Int) (x107000_1 : Int) (x107001_1 : Int) (x107002_1 : Int) (x107003_1 : Int) (x107004_1 : Int) (x107005_1 : Int) (x107006_1 : Int) (x107007_1 : Int) (x107008_1 : Int), v5 = .int .i64 x5_1 ∧ v6 = .int .i64 x6_1 ∧ Aside0 (identity_Format.l0 kq x5_1 x6_1 x107000_1 x107001_1 x107002_1 x107003_1 x107004_1 x107005_1 x107006_1 x107007_1 x107008_1 = some (r1, r2)) ∧ Aside0 (kq ≤ k) ∧ Aside0 (w'.heap[gb104]? = some (.cells #[.int .i64 a0_0, .int .i64 a0_1, .int .i64 a0_2] 23 (0, 0))) ∧ Aside0 (w'.heap[gb106]? = some (.cells #[.int .u8 x107000_1, .int .u8 x107001_1, .int .u8 x107002_1, .int .u8 x107003_1, .int .u8 x107004_1, .int .u8 x107005_1, .int .u8 x107006_1, .int .u8 x107007_1, .int .u8 x107008_1] 43 (0, 0))) ∧ Aside0 (Below w.heap.size w w'))
    case atStart => exact ⟨(wrap64 ((wrap64 ((wrap64 ((wrap64 (a0_0 * 100)) + a0_1)) * 10000)) + a0_2)), (7), (0), (0), (0), (0), (0), (0), (0), (0), (0), (by first | rfl | (simp; done) | (simp [*]; done)), (by first | rfl | (simp; done) | (simp [*]; done)), H', ⟨Nat.le_refl _⟩, ⟨by (with_reducible repeat (first | refine blk_drewN ?_ _ | refine blk_drew ?_ | refine blk_alloc ?_ _)); exact BK104.out⟩, ⟨by (with_reducible repeat (first | refine blk_drewN ?_ _ | refine blk_drew ?_ | refine blk_alloc ?_ _)); exact BK106.out⟩, ⟨by repeat (first | (with_reducible first | exact HB.out | apply below_alloc | apply pw_below_drewN | apply below_drew1 | refine below_set ?_ GE104.out | refine below_set ?_ GE106.out) | exact HB.out)⟩⟩
    case round =>
      clear H'
      try clear c1
      try clear p2
      try clear c3
      try clear p6
      try clear c8
      try clear hcz5_0
      try clear hcz5_1
      try clear hcz5_2
      try clear hcz9_0
      try clear hcz9_1
      try clear hcz9_2
      try clear hfz5_0
      try clear hfz5_1
      try clear hfz5_2
      try clear hfz9_0
      try clear hfz9_1
      try clear hfz9_2
      obtain ⟨x5_1, x6_1, x107000_1, x107001_1, x107002_1, x107003_1, x107004_1, x107005_1, x107006_1, x107007_1, x107008_1, rfl, rfl, HA, HK1, BK104, BK106, HB⟩ := hrel
      cases gk with
      | zero => exact absurd HA.out (by simp [identity_Format.l0])
      | succ k1 =>
        have H := HA.out
        clear HA
        simp only [identity_Format.l0] at H
        by_cases c10 : x6_1 ≥ 0
        · rw [if_pos c10] at H
          have c10b0 : decide (0 ≤ x6_1) = true := decide_eq_true c10
          clear c10
          obtain ⟨ji11, hji11⟩ : ∃ j_ : Int, (Int.tmod x5_1 10) = j_ := ⟨_, rfl⟩
          replace H : (if 0 ≤ (ji11) then (if (ji11) < 10 then (if 0 ≤ x6_1 then (if x6_1 < 9 then (identity_Format.l0 k1 (wrap64 (Int.tdiv x5_1 10)) (wrap64 (x6_1 - 1)) (sx 0 x6_1 (bt (⟨#[48, 49, 50, 51, 52, 53, 54, 55, 56, 57]⟩ : ByteArray) (ji11)) x107000_1) (sx 1 x6_1 (bt (⟨#[48, 49, 50, 51, 52, 53, 54, 55, 56, 57]⟩ : ByteArray) (ji11)) x107001_1) (sx 2 x6_1 (bt (⟨#[48, 49, 50, 51, 52, 53, 54, 55, 56, 57]⟩ : ByteArray) (ji11)) x107002_1) (sx 3 x6_1 (bt (⟨#[48, 49, 50, 51, 52, 53, 54, 55, 56, 57]⟩ : ByteArray) (ji11)) x107003_1) (sx 4 x6_1 (bt (⟨#[48, 49, 50, 51, 52, 53, 54, 55, 56, 57]⟩ : ByteArray) (ji11)) x107004_1) (sx 5 x6_1 (bt (⟨#[48, 49, 50, 51, 52, 53, 54, 55, 56, 57]⟩ : ByteArray) (ji11)) x107005_1) (sx 6 x6_1 (bt (⟨#[48, 49, 50, 51, 52, 53, 54, 55, 56, 57]⟩ : ByteArray) (ji11)) x107006_1) (sx 7 x6_1 (bt (⟨#[48, 49, 50, 51, 52, 53, 54, 55, 56, 57]⟩ : ByteArray) (ji11)) x107007_1) (sx 8 x6_1 (bt (⟨#[48, 49, 50, 51, 52, 53, 54, 55, 56, 57]⟩ : ByteArray) (ji11)) x107008_1)) else (none)) else (none)) else (none)) else (none)) = some (r1, r2) := by first | (rw [hji11] at H; exact H) | (simp only [hji11] at H ⊢; exact H)
          by_cases c12 : 0 ≤ (ji11)
          · rw [if_pos c12] at H
            have c12b0 : decide (0 ≤ (ji11)) = true := decide_eq_true c12
            clear c12
            by_cases c13 : (ji11) < 10
            · rw [if_pos c13] at H
              have c13b0 : decide ((ji11) < 10) = true := decide_eq_true c13
              clear c13
              by_cases c15 : 0 ≤ x6_1
              · rw [if_pos c15] at H
                have c15b0 : decide (0 ≤ x6_1) = true := decide_eq_true c15
                clear c15
                by_cases c16 : x6_1 < 9
                · rw [if_pos c16] at H
                  have c16b0 : decide (x6_1 < 9) = true := decide_eq_true c16
                  clear c16
                  have H' := Aside0.mk H
                  clear H
                  have p14 : 0 ≤ ((ji11) : Int) := of_decide_eq_true (by first | (with_reducible assumption) | assumption)
                  have q14 : (ji11) < (10 : Int) := of_decide_eq_true (by first | (with_reducible assumption) | assumption)
                  have hx14 := bt_at (⟨#[48, 49, 50, 51, 52, 53, 54, 55, 56, 57]⟩ : ByteArray) (ji11)
                  replace p14 := eq_true p14
                  replace q14 := eq_true q14
                  have hnb17 := NB106_104.out
                  have hnc17 := NB104_106.out
                  have hcz18_0 : wr.cell? ⟨gb106, 0, none⟩ = some (.int .u8 x107000_1) := (blk_cell BK106.out 0).trans rfl
                  have hcz18_1 : wr.cell? ⟨gb106, 1, none⟩ = some (.int .u8 x107001_1) := (blk_cell BK106.out 1).trans rfl
                  have hcz18_2 : wr.cell? ⟨gb106, 2, none⟩ = some (.int .u8 x107002_1) := (blk_cell BK106.out 2).trans rfl
                  have hcz18_3 : wr.cell? ⟨gb106, 3, none⟩ = some (.int .u8 x107003_1) := (blk_cell BK106.out 3).trans rfl
                  have hcz18_4 : wr.cell? ⟨gb106, 4, none⟩ = some (.int .u8 x107004_1) := (blk_cell BK106.out 4).trans rfl
                  have hcz18_5 : wr.cell? ⟨gb106, 5, none⟩ = some (.int .u8 x107005_1) := (blk_cell BK106.out 5).trans rfl
                  have hcz18_6 : wr.cell? ⟨gb106, 6, none⟩ = some (.int .u8 x107006_1) := (blk_cell BK106.out 6).trans rfl
                  have hcz18_7 : wr.cell? ⟨gb106, 7, none⟩ = some (.int .u8 x107007_1) := (blk_cell BK106.out 7).trans rfl
                  have hcz18_8 : wr.cell? ⟨gb106, 8, none⟩ = some (.int .u8 x107008_1) := (blk_cell BK106.out 8).trans rfl
                  have hfz18_0 := blk_frozen BK106.out 0
                  have hfz18_1 := blk_frozen BK106.out 1
                  have hfz18_2 := blk_frozen BK106.out 2
                  have hfz18_3 := blk_frozen BK106.out 3
                  have hfz18_4 := blk_frozen BK106.out 4
                  have hfz18_5 := blk_frozen BK106.out 5
                  have hfz18_6 := blk_frozen BK106.out 6
                  have hfz18_7 := blk_frozen BK106.out 7
                  have hfz18_8 := blk_frozen BK106.out 8
                  have hy19 := blk_frozen BK106.out (x6_1).toNat
                  have p20 : 0 ≤ (x6_1 : Int) := of_decide_eq_true (by first | (with_reducible assumption) | assumption)
                  have q20 : (x6_1 : Int) < 9 := of_decide_eq_true (by first | (with_reducible assumption) | assumption)
                  have hx20 : wr.cell? ⟨gb106, (x6_1).toNat, none⟩ = some (.int .u8 (ix9 x6_1 x107000_1 x107001_1 x107002_1 x107003_1 x107004_1 x107005_1 x107006_1 x107007_1 x107008_1)) := ixcell9 BK106.out (decide_eq_true p20) (decide_eq_true (Int.lt_of_lt_of_le q20 (by decide)))
                  replace p20 := eq_true p20
                  replace q20 := eq_true q20
                  go_wp2_with (first | ((with_reducible refine gate_store (t := 5) (p := 28) rfl ?_); refine store_event (t := 5) (p := 28) (v := ?vo_w21) (w1 := (wr.setCell ⟨gb106, (x6_1 : Int).toNat, none⟩ (.int .u8 (bt (⟨#[48, 49, 50, 51, 52, 53, 54, 55, 56, 57]⟩ : ByteArray) (ji11))))) ?hg ?ho ?hn ?hr ?_; (case ho => rfl); (case hg => rfl); (case hn => rfl); (case hr => first | (go_simp; done) | (go_simp; rfl)); intro w21 hw; have n0_ : Aside0 (w21.heap[gb104]? = some (.cells #[.int .i64 a0_0, .int .i64 a0_1, .int .i64 a0_2] 23 (0, 0))) := ⟨(by rw [hw]; exact (by (with_reducible repeat (first | refine blk_drewN ?_ _ | refine blk_drew ?_ | refine blk_alloc ?_ _)); refine blk_far ?_ NB104_106.out _; (with_reducible repeat (first | refine blk_drewN ?_ _ | refine blk_drew ?_ | refine blk_alloc ?_ _)); exact BK104.out))⟩; have n1_ : Aside0 (w21.heap[gb106]? = some (.cells #[.int .u8 (sx 0 x6_1 (bt (⟨#[48, 49, 50, 51, 52, 53, 54, 55, 56, 57]⟩ : ByteArray) (ji11)) x107000_1), .int .u8 (sx 1 x6_1 (bt (⟨#[48, 49, 50, 51, 52, 53, 54, 55, 56, 57]⟩ : ByteArray) (ji11)) x107001_1), .int .u8 (sx 2 x6_1 (bt (⟨#[48, 49, 50, 51, 52, 53, 54, 55, 56, 57]⟩ : ByteArray) (ji11)) x107002_1), .int .u8 (sx 3 x6_1 (bt (⟨#[48, 49, 50, 51, 52, 53, 54, 55, 56, 57]⟩ : ByteArray) (ji11)) x107003_1), .int .u8 (sx 4 x6_1 (bt (⟨#[48, 49, 50, 51, 52, 53, 54, 55, 56, 57]⟩ : ByteArray) (ji11)) x107004_1), .int .u8 (sx 5 x6_1 (bt (⟨#[48, 49, 50, 51, 52, 53, 54, 55, 56, 57]⟩ : ByteArray) (ji11)) x107005_1), .int .u8 (sx 6 x6_1 (bt (⟨#[48, 49, 50, 51, 52, 53, 54, 55, 56, 57]⟩ : ByteArray) (ji11)) x107006_1), .int .u8 (sx 7 x6_1 (bt (⟨#[48, 49, 50, 51, 52, 53, 54, 55, 56, 57]⟩ : ByteArray) (ji11)) x107007_1), .int .u8 (sx 8 x6_1 (bt (⟨#[48, 49, 50, 51, 52, 53, 54, 55, 56, 57]⟩ : ByteArray) (ji11)) x107008_1)] 43 (0, 0))) := ⟨(by rw [hw]; exact (by (with_reducible repeat (first | refine blk_drewN ?_ _ | refine blk_drew ?_ | refine blk_alloc ?_ _)); refine blk_setv9 (by first | assumption | decide | omega) (by first | assumption | decide | omega) ?_ _; (with_reducible repeat (first | refine blk_drewN ?_ _ | refine blk_drew ?_ | refine blk_alloc ?_ _)); exact BK106.out))⟩; have n2_ : Aside0 (Below w.heap.size w w21) := ⟨(by rw [hw]; exact (by repeat (first | (with_reducible first | exact HB.out | apply below_alloc | apply pw_below_drewN | apply below_drew1 | refine below_set ?_ GE104.out | refine below_set ?_ GE106.out) | exact HB.out)))⟩; clear hw; clear BK104; clear BK106; clear HB; have BK104 := n0_; have BK106 := n1_; have HB := n2_; clear n0_ n1_ n2_))
                  go_roundg k1
                  case measure => have := HK1.out; omega
                  case rel => exact ⟨(wrap64 (Int.tdiv x5_1 10)), (wrap64 (x6_1 - 1)), (sx 0 x6_1 (bt (⟨#[48, 49, 50, 51, 52, 53, 54, 55, 56, 57]⟩ : ByteArray) (ji11)) x107000_1), (sx 1 x6_1 (bt (⟨#[48, 49, 50, 51, 52, 53, 54, 55, 56, 57]⟩ : ByteArray) (ji11)) x107001_1), (sx 2 x6_1 (bt (⟨#[48, 49, 50, 51, 52, 53, 54, 55, 56, 57]⟩ : ByteArray) (ji11)) x107002_1), (sx 3 x6_1 (bt (⟨#[48, 49, 50, 51, 52, 53, 54, 55, 56, 57]⟩ : ByteArray) (ji11)) x107003_1), (sx 4 x6_1 (bt (⟨#[48, 49, 50, 51, 52, 53, 54, 55, 56, 57]⟩ : ByteArray) (ji11)) x107004_1), (sx 5 x6_1 (bt (⟨#[48, 49, 50, 51, 52, 53, 54, 55, 56, 57]⟩ : ByteArray) (ji11)) x107005_1), (sx 6 x6_1 (bt (⟨#[48, 49, 50, 51, 52, 53, 54, 55, 56, 57]⟩ : ByteArray) (ji11)) x107006_1), (sx 7 x6_1 (bt (⟨#[48, 49, 50, 51, 52, 53, 54, 55, 56, 57]⟩ : ByteArray) (ji11)) x107007_1), (sx 8 x6_1 (bt (⟨#[48, 49, 50, 51, 52, 53, 54, 55, 56, 57]⟩ : ByteArray) (ji11)) x107008_1), (by first | rfl | (simp; done) | (simp [*]; done)), (by first | rfl | (simp; done) | (simp [*]; done)), H', ⟨by have := HK1.out; omega⟩, ⟨by (with_reducible repeat (first | refine blk_drewN ?_ _ | refine blk_drew ?_ | refine blk_alloc ?_ _)); exact BK104.out⟩, ⟨by (with_reducible repeat (first | refine blk_drewN ?_ _ | refine blk_drew ?_ | refine blk_alloc ?_ _)); exact BK106.out⟩, ⟨by repeat (first | (with_reducible first | exact HB.out | apply below_alloc | apply pw_below_drewN | apply below_drew1 | refine below_set ?_ GE104.out | refine below_set ?_ GE106.out) | exact HB.out)⟩⟩
                · rw [if_neg c16] at H
                  exact absurd H (by simp)
              · rw [if_neg c15] at H
                exact absurd H (by simp)
            · rw [if_neg c13] at H
              exact absurd H (by simp)
          · rw [if_neg c12] at H
            exact absurd H (by simp)
        · rw [if_neg c10] at H
          have c10b0 : decide (0 ≤ x6_1) = false := decide_eq_false c10
          clear c10
          replace H := Option.bind_eq_some_iff.mp H
          obtain ⟨t109, A220, H⟩ := H
          replace H : (some (strOfNums [x107000_1, x107001_1, x107002_1, x107003_1, x107004_1, x107005_1, x107006_1, x107007_1, t109], 0)) = some (r1, r2) := H
          have A22 := Aside0.mk A220
          clear A220
          simp only [Option.some.injEq, Prod.mk.injEq] at H
          obtain ⟨rfl, rfl⟩ := H
          have hnb23 := NB106_104.out
          have hnc23 := NB104_106.out
          have hcz24_0 : wr.cell? ⟨gb106, 0, none⟩ = some (.int .u8 x107000_1) := (blk_cell BK106.out 0).trans rfl
          have hcz24_1 : wr.cell? ⟨gb106, 1, none⟩ = some (.int .u8 x107001_1) := (blk_cell BK106.out 1).trans rfl
          have hcz24_2 : wr.cell? ⟨gb106, 2, none⟩ = some (.int .u8 x107002_1) := (blk_cell BK106.out 2).trans rfl
          have hcz24_3 : wr.cell? ⟨gb106, 3, none⟩ = some (.int .u8 x107003_1) := (blk_cell BK106.out 3).trans rfl
          have hcz24_4 : wr.cell? ⟨gb106, 4, none⟩ = some (.int .u8 x107004_1) := (blk_cell BK106.out 4).trans rfl
          have hcz24_5 : wr.cell? ⟨gb106, 5, none⟩ = some (.int .u8 x107005_1) := (blk_cell BK106.out 5).trans rfl
          have hcz24_6 : wr.cell? ⟨gb106, 6, none⟩ = some (.int .u8 x107006_1) := (blk_cell BK106.out 6).trans rfl
          have hcz24_7 : wr.cell? ⟨gb106, 7, none⟩ = some (.int .u8 x107007_1) := (blk_cell BK106.out 7).trans rfl
          have hcz24_8 : wr.cell? ⟨gb106, 8, none⟩ = some (.int .u8 x107008_1) := (blk_cell BK106.out 8).trans rfl
          have hfz24_0 := blk_frozen BK106.out 0
          have hfz24_1 := blk_frozen BK106.out 1
          have hfz24_2 := blk_frozen BK106.out 2
          have hfz24_3 := blk_frozen BK106.out 3
          have hfz24_4 := blk_frozen BK106.out 4
          have hfz24_5 := blk_frozen BK106.out 5
          have hfz24_6 := blk_frozen BK106.out 6
          have hfz24_7 := blk_frozen BK106.out 7
          have hfz24_8 := blk_frozen BK106.out 8
          go_wp2_with (first | ((with_reducible refine gate_callee (f := 28) rfl ?_); refine goesL_ (some 32) rfl rfl Try.func28 (by kernel_rfl) rfl #[.agg #[.int .u8 x107000_1, .int .u8 x107001_1, .int .u8 x107002_1, .int .u8 x107003_1, .int .u8 x107004_1, .int .u8 x107005_1, .int .u8 x107006_1, .int .u8 x107007_1, .int .u8 x107008_1]] rfl (by (try simp only [List.map_toArray, List.map_cons, List.map_nil]); first | done | rfl | (simp only [List.length_drop, List.length_take]; rfl)) ?_; (with_reducible refine (identity_number_check.calls k1 x107000_1 x107001_1 x107002_1 x107003_1 x107004_1 x107005_1 x107006_1 x107007_1 x107008_1 t109 _ A22.out).mono ?_); rintro e w25 ⟨rfl, hb⟩; refine ⟨_, rfl, ?_⟩; have n0_ := Aside0.mk (blk_below (g := gb104) (o := .cells #[.int .i64 a0_0, .int .i64 a0_1, .int .i64 a0_2] 23 (0, 0)) (by (with_reducible repeat (first | refine blk_drewN ?_ _ | refine blk_drew ?_ | refine blk_alloc ?_ _)); exact BK104.out) hb); have n1_ := Aside0.mk (blk_below (g := gb106) (o := .cells #[.int .u8 x107000_1, .int .u8 x107001_1, .int .u8 x107002_1, .int .u8 x107003_1, .int .u8 x107004_1, .int .u8 x107005_1, .int .u8 x107006_1, .int .u8 x107007_1, .int .u8 x107008_1] 43 (0, 0)) (by (with_reducible repeat (first | refine blk_drewN ?_ _ | refine blk_drew ?_ | refine blk_alloc ?_ _)); exact BK106.out) hb); have n2_ := Aside0.mk (below_step (by repeat (first | (with_reducible first | exact HB.out | apply below_alloc | apply pw_below_drewN | apply below_drew1 | refine below_set ?_ GE104.out | refine below_set ?_ GE106.out) | exact HB.out)) hb); clear BK104; clear BK106; clear HB; have BK104 := n0_; have BK106 := n1_; have HB := n2_; clear n0_ n1_ n2_; (try clear hb); (try clear hb2); (try clear hk); (try clear hi); have hcz26_0 : w25.cell? ⟨gb106, 0, none⟩ = some (.int .u8 x107000_1) := (blk_cell BK106.out 0).trans rfl; have hcz26_1 : w25.cell? ⟨gb106, 1, none⟩ = some (.int .u8 x107001_1) := (blk_cell BK106.out 1).trans rfl; have hcz26_2 : w25.cell? ⟨gb106, 2, none⟩ = some (.int .u8 x107002_1) := (blk_cell BK106.out 2).trans rfl; have hcz26_3 : w25.cell? ⟨gb106, 3, none⟩ = some (.int .u8 x107003_1) := (blk_cell BK106.out 3).trans rfl; have hcz26_4 : w25.cell? ⟨gb106, 4, none⟩ = some (.int .u8 x107004_1) := (blk_cell BK106.out 4).trans rfl; have hcz26_5 : w25.cell? ⟨gb106, 5, none⟩ = some (.int .u8 x107005_1) := (blk_cell BK106.out 5).trans rfl; have hcz26_6 : w25.cell? ⟨gb106, 6, none⟩ = some (.int .u8 x107006_1) := (blk_cell BK106.out 6).trans rfl; have hcz26_7 : w25.cell? ⟨gb106, 7, none⟩ = some (.int .u8 x107007_1) := (blk_cell BK106.out 7).trans rfl; have hcz26_8 : w25.cell? ⟨gb106, 8, none⟩ = some (.int .u8 x107008_1) := (blk_cell BK106.out 8).trans rfl; have hfz26_0 := blk_frozen BK106.out 0; have hfz26_1 := blk_frozen BK106.out 1; have hfz26_2 := blk_frozen BK106.out 2; have hfz26_3 := blk_frozen BK106.out 3; have hfz26_4 := blk_frozen BK106.out 4; have hfz26_5 := blk_frozen BK106.out 5; have hfz26_6 := blk_frozen BK106.out 6; have hfz26_7 := blk_frozen BK106.out 7; have hfz26_8 := blk_frozen BK106.out 8) | ((with_reducible refine gate_store (t := 5) (p := 33) rfl ?_); refine store_event (t := 5) (p := 33) (v := ?vo_w27) (w1 := (w25.setCell ⟨gb106, 8, none⟩ (.int .u8 t109))) ?hg ?ho ?hn ?hr ?_; (case ho => rfl); (case hg => rfl); (case hn => rfl); (case hr => first | (go_simp; done) | (go_simp; rfl)); intro w27 hw; have n0_ : Aside0 (w27.heap[gb104]? = some (.cells #[.int .i64 a0_0, .int .i64 a0_1, .int .i64 a0_2] 23 (0, 0))) := ⟨(by rw [hw]; exact (by (with_reducible repeat (first | refine blk_drewN ?_ _ | refine blk_drew ?_ | refine blk_alloc ?_ _)); refine blk_far ?_ NB104_106.out _; (with_reducible repeat (first | refine blk_drewN ?_ _ | refine blk_drew ?_ | refine blk_alloc ?_ _)); exact BK104.out))⟩; have n1_ : Aside0 (w27.heap[gb106]? = some (.cells #[.int .u8 x107000_1, .int .u8 x107001_1, .int .u8 x107002_1, .int .u8 x107003_1, .int .u8 x107004_1, .int .u8 x107005_1, .int .u8 x107006_1, .int .u8 x107007_1, .int .u8 t109] 43 (0, 0))) := ⟨(by rw [hw]; exact (by (with_reducible repeat (first | refine blk_drewN ?_ _ | refine blk_drew ?_ | refine blk_alloc ?_ _)); refine blk_put (cs := #[.int .u8 x107000_1, .int .u8 x107001_1, .int .u8 x107002_1, .int .u8 x107003_1, .int .u8 x107004_1, .int .u8 x107005_1, .int .u8 x107006_1, .int .u8 x107007_1, .int .u8 x107008_1]) ?_ 8 _ rfl; (with_reducible repeat (first | refine blk_drewN ?_ _ | refine blk_drew ?_ | refine blk_alloc ?_ _)); exact BK106.out))⟩; have n2_ : Aside0 (Below w.heap.size w w27) := ⟨(by rw [hw]; exact (by repeat (first | (with_reducible first | exact HB.out | apply below_alloc | apply pw_below_drewN | apply below_drew1 | refine below_set ?_ GE104.out | refine below_set ?_ GE106.out) | exact HB.out)))⟩; clear hw; clear BK104; clear BK106; clear HB; have BK104 := n0_; have BK106 := n1_; have HB := n2_; clear n0_ n1_ n2_; have hs28 : ∀ n_ : Nat, (convert 34 9 (.slice (some ⟨gb106, 0, none⟩) 9 9)).run Try.prog (w27.drewN n_) = .ok (.string (strOfNums [x107000_1, x107001_1, x107002_1, x107003_1, x107004_1, x107005_1, x107006_1, x107007_1, t109])) (w27.drewN n_) := fun n_ => arrstr9_9 Try.underlying34 Try.underlying5 Try.underlying9 (blk_drewN BK106.out n_); have ht28 := hs28 0; simp only [World.drewN_zero] at ht28))
          go_ret2
          exact ⟨by first | rfl | (simp [errW_none, errW_some] <;> rfl) | (simp [*, errW_none, errW_some] <;> rfl), by repeat (first | (with_reducible first | exact HB.out | apply below_alloc | apply pw_below_drewN | apply below_drew1 | refine below_set ?_ GE104.out | refine below_set ?_ GE106.out) | exact HB.out)⟩
  · replace c3 := Bool.eq_false_iff.mpr c3
    subst c3
    have H1 : (some ((⟨#[]⟩ : ByteArray), 2)) = some (r1, r2) := by rw [if_neg (show ¬ (false = true) by decide)] at H; exact H
    clear H
    have H := H1
    clear H1
    simp only [Option.some.injEq, Prod.mk.injEq] at H
    obtain ⟨rfl, rfl⟩ := H
    go_enter Try.func13, Try.ntmps13
    go_wp2_with (first | ((with_reducible refine gate_dst (N := 1) rfl ?_); refine box_event ?hg (N := 1) ?hd (cs := #[.int .i64 a0_0, .int .i64 a0_1, .int .i64 a0_2]) (t := 23) ?hr ?_; (case hd => rfl); (case hg => rfl); (case hr => first | (go_simp; done) | (go_simp; rfl)); intro gb104 hg w29 hbox hb; have n0_ := Aside0.mk (below_step (by repeat (first | (with_reducible first | exact HB.out | apply below_alloc | apply pw_below_drewN | apply below_drew1) | exact HB.out)) hb); have n1_ := Aside0.mk (hbox); have n2_ := Aside0.mk ((by rw [hg]; exact (below_size (by repeat (first | (with_reducible first | exact HB.out | apply below_alloc | apply pw_below_drewN | apply below_drew1) | exact HB.out))) : w.heap.size ≤ gb104)); have n3_ := Aside0.mk ((by rw [hg]; exact (below_size (by repeat (first | (with_reducible first | exact HB.out | apply below_alloc | apply pw_below_drewN | apply below_drew1) | exact HB.out))) : w.heap.size ≤ gb104)); clear HB; have HB := n0_; have BK104 := n1_; have GW104 := n2_; have GE104 := n3_; clear n0_ n1_ n2_ n3_; clear hb hbox hg; have hcz30_0 : w29.cell? ⟨gb104, 0, none⟩ = some (.int .i64 a0_0) := (blk_cell BK104.out 0).trans rfl; have hcz30_1 : w29.cell? ⟨gb104, 1, none⟩ = some (.int .i64 a0_1) := (blk_cell BK104.out 1).trans rfl; have hcz30_2 : w29.cell? ⟨gb104, 2, none⟩ = some (.int .i64 a0_2) := (blk_cell BK104.out 2).trans rfl; have hfz30_0 := blk_frozen BK104.out 0; have hfz30_1 := blk_frozen BK104.out 1; have hfz30_2 := blk_frozen BK104.out 2) | ((with_reducible refine gate_callee (f := 15) rfl ?_); refine goesL_ (some 8) rfl rfl Try.func15 (by kernel_rfl) rfl #[.agg #[.int .i64 a0_0, .int .i64 a0_1, .int .i64 a0_2]] rfl (by (try simp only [List.map_toArray, List.map_cons, List.map_nil]); first | done | rfl | (simp only [List.length_drop, List.length_take]; rfl)) ?_; (with_reducible refine (identity_Valid.calls a0_0 a0_1 a0_2 false _ A2.out).mono ?_); rintro e w31 ⟨rfl, hb⟩; refine ⟨_, rfl, ?_⟩; have n0_ := Aside0.mk (blk_below (g := gb104) (o := .cells #[.int .i64 a0_0, .int .i64 a0_1, .int .i64 a0_2] 23 (0, 0)) (by (with_reducible repeat (first | refine blk_drewN ?_ _ | refine blk_drew ?_ | refine blk_alloc ?_ _)); exact BK104.out) hb); have n1_ := Aside0.mk (below_step (by repeat (first | (with_reducible first | exact HB.out | apply below_alloc | apply pw_below_drewN | apply below_drew1 | refine below_set ?_ GE104.out) | exact HB.out)) hb); clear BK104; clear HB; have BK104 := n0_; have HB := n1_; clear n0_ n1_; (try clear hb); (try clear hb2); (try clear hk); (try clear hi)))
    go_ret2
    exact ⟨by first | rfl | (simp [errW_none, errW_some] <;> rfl) | (simp [*, errW_none, errW_some] <;> rfl), by repeat (first | (with_reducible first | exact HB.out | apply below_alloc | apply pw_below_drewN | apply below_drew1 | refine below_set ?_ GE104.out) | exact HB.out)⟩

-- NOT PRINTED: function 49 (bytealg_IndexByteString)

-- NOT PRINTED: function 45 (stringslite_IndexByte)

/-! ### strings_IndexByte: function 34 -/

theorem strings_IndexByte.walk_in (s : ByteArray) (c : Int) (w : World) :
    Calls Try.prog 45 #[.string s, .int .u8 c] w fun e w' => e = .returned (.int .i64 (Lib.indexByte s.data.toList c.toNat.toUInt8)) ∧ Drawn0 w w' := by
  go_enter Try.func45, Try.ntmps45
  go_wp2
  rw [run_callFunc_extern Try.func49 (by kernel_rfl) (by kernel_rfl) (by kernel_rfl) (e := Extern.BytealgIndexByte.indexByte) (by kernel_rfl), Lib.run_indexByteString]
  simp only [Result.andThen]
  rw [Oper.upon_value]
  go_wp2
  go_ret
  exact ⟨rfl, Drawn0.refl _⟩
def strings_IndexByte.f (a0 : ByteArray) (a1 : Int) : Option (Int) := some (Lib.indexByte a0.data.toList a1.toNat.toUInt8)
theorem strings_IndexByte.calls (a0 : ByteArray) (a1 : Int) (r : Int) (w : World) (h : strings_IndexByte.f a0 a1 = some r) :
    Calls Try.prog 34 #[.string a0, .int .u8 a1] w fun e w' => e = .returned (.int .i64 r) ∧ Drawn0 w w' := by
  obtain rfl := Option.some.inj h
  go_enter Try.func34, Try.ntmps34
  go_wp2_with (go_at_call 45; refine (strings_IndexByte.walk_in _ _ _).mono ?_; rintro e w' ⟨rfl, hd⟩)
  go_ret
  exact ⟨rfl, hd⟩

/-! ### identity_at: function 41 -/
def identity_at.f (a0 : Int) : Option (ByteArray) := if a0 = 8 then (some (⟨#[65, 66, 67, 68, 69, 70, 71, 72, 74, 75, 76, 77, 78, 80, 81, 82, 83, 84, 85, 86, 87, 88, 89]⟩ : ByteArray)) else (some (⟨#[48, 49, 50, 51, 52, 53, 54, 55, 56, 57]⟩ : ByteArray))
set_option maxHeartbeats 8000000 in
set_option maxRecDepth 100000 in
theorem identity_at.calls (a0 : Int) (r : ByteArray) (w : World) (h : identity_at.f a0 = some r) :
    Calls Try.prog 41 #[.int .i64 a0] w fun e w' => e = .returned (.string r) ∧ Drawn0 w w' := by
  have H : (if a0 = 8 then (some (⟨#[65, 66, 67, 68, 69, 70, 71, 72, 74, 75, 76, 77, 78, 80, 81, 82, 83, 84, 85, 86, 87, 88, 89]⟩ : ByteArray)) else (some (⟨#[48, 49, 50, 51, 52, 53, 54, 55, 56, 57]⟩ : ByteArray))) = some r := h
  clear h
  by_cases c2 : a0 = 8
  · rw [if_pos c2] at H
    have c2b0 : (a0 == 8) = true := beq_iff_eq.mpr c2
    have c2b1 : (a0 != 8) = false := bne_eq_false_iff_eq.mpr c2
    clear c2
    obtain rfl := Option.some.inj H
    go_enter Try.func41, Try.ntmps41
    go_wp2
    go_ret
    exact ⟨by first | rfl | (simp; done) | (simp [*]; done), by repeat (first | exact Drawn0.refl _ | apply Drawn0.step)⟩
  · rw [if_neg c2] at H
    have c2b0 : (a0 == 8) = false := beq_eq_false_iff_ne.mpr c2
    have c2b1 : (a0 != 8) = true := bne_iff_ne.mpr c2
    obtain rfl := Option.some.inj H
    go_enter Try.func41, Try.ntmps41
    go_wp2
    go_ret
    exact ⟨by first | rfl | (simp; done) | (simp [*]; done), by repeat (first | exact Drawn0.refl _ | apply Drawn0.step)⟩

/-! ### identity_read: function 30 -/
def identity_read.l0 : Nat → ByteArray → ByteArray → Int → Int → Int → Int → Int → Int → Int → Int → Int → Int → Option (Int × Int × Int × Int × Int × Int × Int × Int × Int × Bool)
  | 0, _, _, _, _, _, _, _, _, _, _, _, _ => none
  | k + 1, x0, x1, x12, x112000, x112001, x112002, x112003, x112004, x112005, x112006, x112007, x112008 => if x12 < 9 then (if 0 ≤ x12 then (if x12 < (x0.size : Int) then ((identity_at.f x12).bind fun t112 => (if t112.size + x1.size ≤ 9223372036854775807 then ((strings_IndexByte.f (t112 ++ x1) (bt x0 x12)).bind fun t113 => (if t113 < 0 then (some (sx 0 x12 (bt x0 x12) x112000, sx 1 x12 (bt x0 x12) x112001, sx 2 x12 (bt x0 x12) x112002, sx 3 x12 (bt x0 x12) x112003, sx 4 x12 (bt x0 x12) x112004, sx 5 x12 (bt x0 x12) x112005, sx 6 x12 (bt x0 x12) x112006, sx 7 x12 (bt x0 x12) x112007, sx 8 x12 (bt x0 x12) x112008, false)) else (identity_read.l0 k x0 x1 (wrap64 (x12 + 1)) (sx 0 x12 (bt x0 x12) x112000) (sx 1 x12 (bt x0 x12) x112001) (sx 2 x12 (bt x0 x12) x112002) (sx 3 x12 (bt x0 x12) x112003) (sx 4 x12 (bt x0 x12) x112004) (sx 5 x12 (bt x0 x12) x112005) (sx 6 x12 (bt x0 x12) x112006) (sx 7 x12 (bt x0 x12) x112007) (sx 8 x12 (bt x0 x12) x112008)))) else (none))) else (none)) else (none)) else (some (x112000, x112001, x112002, x112003, x112004, x112005, x112006, x112007, x112008, true))
def identity_read.f (k : Nat) (a0 : ByteArray) (a1 : ByteArray) : Option (Int × Int × Int × Int × Int × Int × Int × Int × Int × Bool) := if (a0.size : Int) = 9 then (identity_read.l0 k a0 a1 0 0 0 0 0 0 0 0 0 0) else (some (0, 0, 0, 0, 0, 0, 0, 0, 0, false))
theorem identity_read.mono_l : ∀ k, (∀ y0 y1 y2 y3 y4 y5 y6 y7 y8 y9 y10 y11, LeO (identity_read.l0 k y0 y1 y2 y3 y4 y5 y6 y7 y8 y9 y10 y11) (identity_read.l0 (k + 1) y0 y1 y2 y3 y4 y5 y6 y7 y8 y9 y10 y11))
  | 0 => fun _ _ _ _ _ _ _ _ _ _ _ _ r h => by simp [identity_read.l0] at h
  | k + 1 => by
    have ih0 := identity_read.mono_l k
    · intro y0 y1 y2 y3 y4 y5 y6 y7 y8 y9 y10 y11
      unfold identity_read.l0
      repeat' first
      | (with_reducible exact ih0 _ _ _ _ _ _ _ _ _ _ _ _)
      | (with_reducible exact LeO.refl _)
      | (with_reducible exact LeO.none _)
      | (with_reducible refine LeO.ite ?_ ?_)
      | (with_reducible refine LeO.bind ?_ (fun _ => ?_))
      | exact ih0 _ _ _ _ _ _ _ _ _ _ _ _
      | exact LeO.none _
      | refine LeO.ite ?_ ?_
      | refine LeO.bind ?_ (fun _ => ?_)
theorem identity_read.mono : ∀ a0 a1 k, LeO (identity_read.f k a0 a1) (identity_read.f (k + 1) a0 a1) := by
  intro a0 a1 k
  have ih0 := identity_read.mono_l k
  unfold identity_read.f
  repeat' first
      | (with_reducible exact ih0 _ _ _ _ _ _ _ _ _ _ _ _)
      | (with_reducible exact LeO.refl _)
      | (with_reducible exact LeO.none _)
      | (with_reducible refine LeO.ite ?_ ?_)
      | (with_reducible refine LeO.bind ?_ (fun _ => ?_))
      | exact ih0 _ _ _ _ _ _ _ _ _ _ _ _
      | exact LeO.none _
      | refine LeO.ite ?_ ?_
      | refine LeO.bind ?_ (fun _ => ?_)
set_option maxHeartbeats 8000000 in
set_option maxRecDepth 100000 in
theorem identity_read.calls (k : Nat) (a0 : ByteArray) (a1 : ByteArray) (r1 : Int) (r2 : Int) (r3 : Int) (r4 : Int) (r5 : Int) (r6 : Int) (r7 : Int) (r8 : Int) (r9 : Int) (r10 : Bool) (w : World) (h : identity_read.f k a0 a1 = some (r1, r2, r3, r4, r5, r6, r7, r8, r9, r10)) :
    Calls Try.prog 30 #[.string a0, .string a1] w fun e w' => e = .returned (.tuple #[.agg #[.int .u8 r1, .int .u8 r2, .int .u8 r3, .int .u8 r4, .int .u8 r5, .int .u8 r6, .int .u8 r7, .int .u8 r8, .int .u8 r9], .bool r10]) ∧ Below w.heap.size w w' := by
  have hu43 := Try.underlying43
  have HB := Aside0.mk (Below.refl w.heap.size w)
  have H : (if (a0.size : Int) = 9 then (identity_read.l0 k a0 a1 0 0 0 0 0 0 0 0 0 0) else (some (0, 0, 0, 0, 0, 0, 0, 0, 0, false))) = some (r1, r2, r3, r4, r5, r6, r7, r8, r9, r10) := h
  clear h
  by_cases c3 : (a0.size : Int) = 9
  · rw [if_pos c3] at H
    have c3b0 : ((a0.size : Int) == 9) = true := beq_iff_eq.mpr c3
    have c3b1 : ((a0.size : Int) != 9) = false := bne_eq_false_iff_eq.mpr c3
    clear c3
    have H' := Aside0.mk H
    clear H
    go_enter Try.func30, Try.ntmps30
    go_wp2_with (first | ((with_reducible refine gate_dst (N := 4) rfl ?_); refine box_event ?hg (N := 4) ?hd (cs := #[.int .u8 0, .int .u8 0, .int .u8 0, .int .u8 0, .int .u8 0, .int .u8 0, .int .u8 0, .int .u8 0, .int .u8 0]) (t := 43) ?hr ?_; (case hd => rfl); (case hg => rfl); (case hr => first | (go_simp; done) | (go_simp; rfl)); intro gb110 hg w4 hbox hb; have n0_ := Aside0.mk (below_step (by repeat (first | (with_reducible first | exact HB.out | apply below_alloc | apply pw_below_drewN | apply below_drew1) | exact HB.out)) hb); have n1_ := Aside0.mk (hbox); have n2_ := Aside0.mk ((by rw [hg]; exact (below_size (by repeat (first | (with_reducible first | exact HB.out | apply below_alloc | apply pw_below_drewN | apply below_drew1) | exact HB.out))) : w.heap.size ≤ gb110)); have n3_ := Aside0.mk ((by rw [hg]; exact (below_size (by repeat (first | (with_reducible first | exact HB.out | apply below_alloc | apply pw_below_drewN | apply below_drew1) | exact HB.out))) : w.heap.size ≤ gb110)); clear HB; have HB := n0_; have BK110 := n1_; have GW110 := n2_; have GE110 := n3_; clear n0_ n1_ n2_ n3_; clear hb hbox hg) | ((with_reducible refine gate_dst (N := 6) rfl ?_); refine box_event ?hg (N := 6) ?hd (cs := #[.int .u8 0, .int .u8 0, .int .u8 0, .int .u8 0, .int .u8 0, .int .u8 0, .int .u8 0, .int .u8 0, .int .u8 0]) (t := 43) ?hr ?_; (case hd => rfl); (case hg => rfl); (case hr => first | (go_simp; done) | (go_simp; rfl)); intro gb111 hg w5 hbox hb; have n0_ := Aside0.mk (blk_below (g := gb110) (o := .cells #[.int .u8 0, .int .u8 0, .int .u8 0, .int .u8 0, .int .u8 0, .int .u8 0, .int .u8 0, .int .u8 0, .int .u8 0] 43 (0, 0)) (by (with_reducible repeat (first | refine blk_drewN ?_ _ | refine blk_drew ?_ | refine blk_alloc ?_ _)); exact BK110.out) hb); have n1_ := Aside0.mk (below_step (by repeat (first | (with_reducible first | exact HB.out | apply below_alloc | apply pw_below_drewN | apply below_drew1 | refine below_set ?_ GE110.out) | exact HB.out)) hb); have n2_ := Aside0.mk (hbox); have n3_ := Aside0.mk ((by rw [hg]; exact (below_size (by repeat (first | (with_reducible first | exact HB.out | apply below_alloc | apply pw_below_drewN | apply below_drew1 | refine below_set ?_ GE110.out) | exact HB.out))) : w.heap.size ≤ gb111)); have n4_ := Aside0.mk ((by rw [hg]; exact (below_size (by repeat (first | (with_reducible first | exact HB.out | apply below_alloc | apply pw_below_drewN | apply below_drew1 | refine below_set ?_ GE110.out) | exact HB.out))) : w.heap.size ≤ gb111)); have n5_ := Aside0.mk ((by rw [hg]; exact Nat.ne_of_lt (blk_lt (g := gb110) (o := .cells #[.int .u8 0, .int .u8 0, .int .u8 0, .int .u8 0, .int .u8 0, .int .u8 0, .int .u8 0, .int .u8 0, .int .u8 0] 43 (0, 0)) (by (with_reducible repeat (first | refine blk_drewN ?_ _ | refine blk_drew ?_ | refine blk_alloc ?_ _)); exact BK110.out)) : gb110 ≠ gb111)); have n6_ := Aside0.mk ((by rw [hg]; exact Nat.ne_of_gt (blk_lt (g := gb110) (o := .cells #[.int .u8 0, .int .u8 0, .int .u8 0, .int .u8 0, .int .u8 0, .int .u8 0, .int .u8 0, .int .u8 0, .int .u8 0] 43 (0, 0)) (by (with_reducible repeat (first | refine blk_drewN ?_ _ | refine blk_drew ?_ | refine blk_alloc ?_ _)); exact BK110.out)) : gb111 ≠ gb110)); clear BK110; clear HB; have BK110 := n0_; have HB := n1_; have BK111 := n2_; have GW111 := n3_; have GE111 := n4_; have NB110_111 := n5_; have NB111_110 := n6_; clear n0_ n1_ n2_ n3_ n4_ n5_ n6_; clear hb hbox hg))
    repeat (go_quiet (first | ((with_reducible refine gate_dst (N := 4) rfl ?_); refine box_event ?hg (N := 4) ?hd (cs := #[.int .u8 0, .int .u8 0, .int .u8 0, .int .u8 0, .int .u8 0, .int .u8 0, .int .u8 0, .int .u8 0, .int .u8 0]) (t := 43) ?hr ?_; (case hd => rfl); (case hg => rfl); (case hr => first | (go_simp; done) | (go_simp; rfl)); intro gb110 hg w4 hbox hb; have n0_ := Aside0.mk (below_step (by repeat (first | (with_reducible first | exact HB.out | apply below_alloc | apply pw_below_drewN | apply below_drew1) | exact HB.out)) hb); have n1_ := Aside0.mk (hbox); have n2_ := Aside0.mk ((by rw [hg]; exact (below_size (by repeat (first | (with_reducible first | exact HB.out | apply below_alloc | apply pw_below_drewN | apply below_drew1) | exact HB.out))) : w.heap.size ≤ gb110)); have n3_ := Aside0.mk ((by rw [hg]; exact (below_size (by repeat (first | (with_reducible first | exact HB.out | apply below_alloc | apply pw_below_drewN | apply below_drew1) | exact HB.out))) : w.heap.size ≤ gb110)); clear HB; have HB := n0_; have BK110 := n1_; have GW110 := n2_; have GE110 := n3_; clear n0_ n1_ n2_ n3_; clear hb hbox hg) | ((with_reducible refine gate_dst (N := 6) rfl ?_); refine box_event ?hg (N := 6) ?hd (cs := #[.int .u8 0, .int .u8 0, .int .u8 0, .int .u8 0, .int .u8 0, .int .u8 0, .int .u8 0, .int .u8 0, .int .u8 0]) (t := 43) ?hr ?_; (case hd => rfl); (case hg => rfl); (case hr => first | (go_simp; done) | (go_simp; rfl)); intro gb111 hg w5 hbox hb; have n0_ := Aside0.mk (blk_below (g := gb110) (o := .cells #[.int .u8 0, .int .u8 0, .int .u8 0, .int .u8 0, .int .u8 0, .int .u8 0, .int .u8 0, .int .u8 0, .int .u8 0] 43 (0, 0)) (by (with_reducible repeat (first | refine blk_drewN ?_ _ | refine blk_drew ?_ | refine blk_alloc ?_ _)); exact BK110.out) hb); have n1_ := Aside0.mk (below_step (by repeat (first | (with_reducible first | exact HB.out | apply below_alloc | apply pw_below_drewN | apply below_drew1 | refine below_set ?_ GE110.out) | exact HB.out)) hb); have n2_ := Aside0.mk (hbox); have n3_ := Aside0.mk ((by rw [hg]; exact (below_size (by repeat (first | (with_reducible first | exact HB.out | apply below_alloc | apply pw_below_drewN | apply below_drew1 | refine below_set ?_ GE110.out) | exact HB.out))) : w.heap.size ≤ gb111)); have n4_ := Aside0.mk ((by rw [hg]; exact (below_size (by repeat (first | (with_reducible first | exact HB.out | apply below_alloc | apply pw_below_drewN | apply below_drew1 | refine below_set ?_ GE110.out) | exact HB.out))) : w.heap.size ≤ gb111)); have n5_ := Aside0.mk ((by rw [hg]; exact Nat.ne_of_lt (blk_lt (g := gb110) (o := .cells #[.int .u8 0, .int .u8 0, .int .u8 0, .int .u8 0, .int .u8 0, .int .u8 0, .int .u8 0, .int .u8 0, .int .u8 0] 43 (0, 0)) (by (with_reducible repeat (first | refine blk_drewN ?_ _ | refine blk_drew ?_ | refine blk_alloc ?_ _)); exact BK110.out)) : gb110 ≠ gb111)); have n6_ := Aside0.mk ((by rw [hg]; exact Nat.ne_of_gt (blk_lt (g := gb110) (o := .cells #[.int .u8 0, .int .u8 0, .int .u8 0, .int .u8 0, .int .u8 0, .int .u8 0, .int .u8 0, .int .u8 0, .int .u8 0] 43 (0, 0)) (by (with_reducible repeat (first | refine blk_drewN ?_ _ | refine blk_drew ?_ | refine blk_alloc ?_ _)); exact BK110.out)) : gb111 ≠ gb110)); clear BK110; clear HB; have BK110 := n0_; have HB := n1_; have BK111 := n2_; have GW111 := n3_; have GE111 := n4_; have NB110_111 := n5_; have NB111_110 := n6_; clear n0_ n1_ n2_ n3_ n4_ n5_ n6_; clear hb hbox hg)); try go_wp2_with (first | ((with_reducible refine gate_dst (N := 4) rfl ?_); refine box_event ?hg (N := 4) ?hd (cs := #[.int .u8 0, .int .u8 0, .int .u8 0, .int .u8 0, .int .u8 0, .int .u8 0, .int .u8 0, .int .u8 0, .int .u8 0]) (t := 43) ?hr ?_; (case hd => rfl); (case hg => rfl); (case hr => first | (go_simp; done) | (go_simp; rfl)); intro gb110 hg w4 hbox hb; have n0_ := Aside0.mk (below_step (by repeat (first | (with_reducible first | exact HB.out | apply below_alloc | apply pw_below_drewN | apply below_drew1) | exact HB.out)) hb); have n1_ := Aside0.mk (hbox); have n2_ := Aside0.mk ((by rw [hg]; exact (below_size (by repeat (first | (with_reducible first | exact HB.out | apply below_alloc | apply pw_below_drewN | apply below_drew1) | exact HB.out))) : w.heap.size ≤ gb110)); have n3_ := Aside0.mk ((by rw [hg]; exact (below_size (by repeat (first | (with_reducible first | exact HB.out | apply below_alloc | apply pw_below_drewN | apply below_drew1) | exact HB.out))) : w.heap.size ≤ gb110)); clear HB; have HB := n0_; have BK110 := n1_; have GW110 := n2_; have GE110 := n3_; clear n0_ n1_ n2_ n3_; clear hb hbox hg) | ((with_reducible refine gate_dst (N := 6) rfl ?_); refine box_event ?hg (N := 6) ?hd (cs := #[.int .u8 0, .int .u8 0, .int .u8 0, .int .u8 0, .int .u8 0, .int .u8 0, .int .u8 0, .int .u8 0, .int .u8 0]) (t := 43) ?hr ?_; (case hd => rfl); (case hg => rfl); (case hr => first | (go_simp; done) | (go_simp; rfl)); intro gb111 hg w5 hbox hb; have n0_ := Aside0.mk (blk_below (g := gb110) (o := .cells #[.int .u8 0, .int .u8 0, .int .u8 0, .int .u8 0, .int .u8 0, .int .u8 0, .int .u8 0, .int .u8 0, .int .u8 0] 43 (0, 0)) (by (with_reducible repeat (first | refine blk_drewN ?_ _ | refine blk_drew ?_ | refine blk_alloc ?_ _)); exact BK110.out) hb); have n1_ := Aside0.mk (below_step (by repeat (first | (with_reducible first | exact HB.out | apply below_alloc | apply pw_below_drewN | apply below_drew1 | refine below_set ?_ GE110.out) | exact HB.out)) hb); have n2_ := Aside0.mk (hbox); have n3_ := Aside0.mk ((by rw [hg]; exact (below_size (by repeat (first | (with_reducible first | exact HB.out | apply below_alloc | apply pw_below_drewN | apply below_drew1 | refine below_set ?_ GE110.out) | exact HB.out))) : w.heap.size ≤ gb111)); have n4_ := Aside0.mk ((by rw [hg]; exact (below_size (by repeat (first | (with_reducible first | exact HB.out | apply below_alloc | apply pw_below_drewN | apply below_drew1 | refine below_set ?_ GE110.out) | exact HB.out))) : w.heap.size ≤ gb111)); have n5_ := Aside0.mk ((by rw [hg]; exact Nat.ne_of_lt (blk_lt (g := gb110) (o := .cells #[.int .u8 0, .int .u8 0, .int .u8 0, .int .u8 0, .int .u8 0, .int .u8 0, .int .u8 0, .int .u8 0, .int .u8 0] 43 (0, 0)) (by (with_reducible repeat (first | refine blk_drewN ?_ _ | refine blk_drew ?_ | refine blk_alloc ?_ _)); exact BK110.out)) : gb110 ≠ gb111)); have n6_ := Aside0.mk ((by rw [hg]; exact Nat.ne_of_gt (blk_lt (g := gb110) (o := .cells #[.int .u8 0, .int .u8 0, .int .u8 0, .int .u8 0, .int .u8 0, .int .u8 0, .int .u8 0, .int .u8 0, .int .u8 0] 43 (0, 0)) (by (with_reducible repeat (first | refine blk_drewN ?_ _ | refine blk_drew ?_ | refine blk_alloc ?_ _)); exact BK110.out)) : gb111 ≠ gb110)); clear BK110; clear HB; have BK110 := n0_; have HB := n1_; have BK111 := n2_; have GW111 := n3_; have GE111 := n4_; have NB110_111 := n5_; have NB111_110 := n6_; clear n0_ n1_ n2_ n3_ n4_ n5_ n6_; clear hb hbox hg)))
    go_loopg [12] k (fun kq v12 w' => ∃ (x12_1 : Int) (x111000_1 : Int) (x111001_1 : Int) (x111002_1 : Int) (x111003_1 : Int) (x111004_1 : Int) (x111005_1 : Int) (x111006_1 : Int) (x111007_1 : Int) (x111008_1 : Int) (x112000_1 : Int) (x112001_1 : Int) (x112002_1 : Int) (x112003_1 : Int) (x112004_1 : Int) (x112005_1 : Int) (x112006_1 : Int) (x112007_1 : Int) (x112008_1 : Int), v12 = .int .i64 x12_1 ∧ Aside0 (identity_read.l0 kq a0 a1 x12_1 x112000_1 x112001_1 x112002_1 x112003_1 x112004_1 x112005_1 x112006_1 x112007_1 x112008_1 = some (r1, r2, r3, r4, r5, r6, r7, r8, r9, r10)) ∧ Aside0 (kq ≤ k) ∧ Aside0 (w'.heap[gb110]? = some (.cells #[.int .u8 x111000_1, .int .u8 x111001_1, .int .u8 x111002_1, .int .u8 x111003_1, .int .u8 x111004_1, .int .u8 x111005_1, .int .u8 x111006_1, .int .u8 x111007_1, .int .u8 x111008_1] 43 (0, 0))) ∧ Aside0 (w'.heap[gb111]? = some (.cells #[.int .u8 x112000_1, .int .u8 x112001_1, .int .u8 x112002_1, .int .u8 x112003_1, .int .u8 x112004_1, .int .u8 x112005_1, .int .u8 x112006_1, .int .u8 x112007_1, .int .u8 x112008_1] 43 (0, 0))) ∧ Aside0 (Below w.heap.size w w'))
    case atStart => exact ⟨(0), (0), (0), (0), (0), (0), (0), (0), (0), (0), (0), (0), (0), (0), (0), (0), (0), (0), (0), (by first | rfl | (simp; done) | (simp [*]; done)), H', ⟨Nat.le_refl _⟩, ⟨by (with_reducible repeat (first | refine blk_drewN ?_ _ | refine blk_drew ?_ | refine blk_alloc ?_ _)); exact BK110.out⟩, ⟨by (with_reducible repeat (first | refine blk_drewN ?_ _ | refine blk_drew ?_ | refine blk_alloc ?_ _)); exact BK111.out⟩, ⟨by repeat (first | (with_reducible first | exact HB.out | apply below_alloc | apply pw_below_drewN | apply below_drew1 | refine below_set ?_ GE110.out | refine below_set ?_ GE111.out) | exact HB.out)⟩⟩
    case round =>
      clear H'
      try clear p2
      try clear c3
      try clear c3b0
      try clear c3b1
      obtain ⟨x12_1, x111000_1, x111001_1, x111002_1, x111003_1, x111004_1, x111005_1, x111006_1, x111007_1, x111008_1, x112000_1, x112001_1, x112002_1, x112003_1, x112004_1, x112005_1, x112006_1, x112007_1, x112008_1, rfl, HA, HK1, BK110, BK111, HB⟩ := hrel
      cases gk with
      | zero => exact absurd HA.out (by simp [identity_read.l0])
      | succ k1 =>
        have H := HA.out
        clear HA
        simp only [identity_read.l0] at H
        by_cases c6 : x12_1 < 9
        · rw [if_pos c6] at H
          have c6b0 : decide (x12_1 < 9) = true := decide_eq_true c6
          clear c6
          by_cases c7 : 0 ≤ x12_1
          · rw [if_pos c7] at H
            have c7b0 : decide (0 ≤ x12_1) = true := decide_eq_true c7
            clear c7
            by_cases c8 : x12_1 < (a0.size : Int)
            · rw [if_pos c8] at H
              have c8b0 : decide (x12_1 < (a0.size : Int)) = true := decide_eq_true c8
              clear c8
              replace H := Option.bind_eq_some_iff.mp H
              obtain ⟨t112, A100, H⟩ := H
              replace H : (if t112.size + a1.size ≤ 9223372036854775807 then ((strings_IndexByte.f (t112 ++ a1) (bt a0 x12_1)).bind fun t113 => (if t113 < 0 then (some (sx 0 x12_1 (bt a0 x12_1) x112000_1, sx 1 x12_1 (bt a0 x12_1) x112001_1, sx 2 x12_1 (bt a0 x12_1) x112002_1, sx 3 x12_1 (bt a0 x12_1) x112003_1, sx 4 x12_1 (bt a0 x12_1) x112004_1, sx 5 x12_1 (bt a0 x12_1) x112005_1, sx 6 x12_1 (bt a0 x12_1) x112006_1, sx 7 x12_1 (bt a0 x12_1) x112007_1, sx 8 x12_1 (bt a0 x12_1) x112008_1, false)) else (identity_read.l0 k1 a0 a1 (wrap64 (x12_1 + 1)) (sx 0 x12_1 (bt a0 x12_1) x112000_1) (sx 1 x12_1 (bt a0 x12_1) x112001_1) (sx 2 x12_1 (bt a0 x12_1) x112002_1) (sx 3 x12_1 (bt a0 x12_1) x112003_1) (sx 4 x12_1 (bt a0 x12_1) x112004_1) (sx 5 x12_1 (bt a0 x12_1) x112005_1) (sx 6 x12_1 (bt a0 x12_1) x112006_1) (sx 7 x12_1 (bt a0 x12_1) x112007_1) (sx 8 x12_1 (bt a0 x12_1) x112008_1)))) else (none)) = some (r1, r2, r3, r4, r5, r6, r7, r8, r9, r10) := H
              have A10 := Aside0.mk A100
              clear A100
              by_cases c11 : t112.size + a1.size ≤ 9223372036854775807
              · rw [if_pos c11] at H
                have c11b0 := eq_true c11
                have c11b1 : decide (t112.size + a1.size ≤ 9223372036854775807) = true := decide_eq_true c11
                try have c11b2 : (9223372036854775807 < t112.size + a1.size) = False := eq_false (Nat.not_lt.2 c11)
                replace H := Option.bind_eq_some_iff.mp H
                obtain ⟨t113, A130, H⟩ := H
                replace H : (if t113 < 0 then (some (sx 0 x12_1 (bt a0 x12_1) x112000_1, sx 1 x12_1 (bt a0 x12_1) x112001_1, sx 2 x12_1 (bt a0 x12_1) x112002_1, sx 3 x12_1 (bt a0 x12_1) x112003_1, sx 4 x12_1 (bt a0 x12_1) x112004_1, sx 5 x12_1 (bt a0 x12_1) x112005_1, sx 6 x12_1 (bt a0 x12_1) x112006_1, sx 7 x12_1 (bt a0 x12_1) x112007_1, sx 8 x12_1 (bt a0 x12_1) x112008_1, false)) else (identity_read.l0 k1 a0 a1 (wrap64 (x12_1 + 1)) (sx 0 x12_1 (bt a0 x12_1) x112000_1) (sx 1 x12_1 (bt a0 x12_1) x112001_1) (sx 2 x12_1 (bt a0 x12_1) x112002_1) (sx 3 x12_1 (bt a0 x12_1) x112003_1) (sx 4 x12_1 (bt a0 x12_1) x112004_1) (sx 5 x12_1 (bt a0 x12_1) x112005_1) (sx 6 x12_1 (bt a0 x12_1) x112006_1) (sx 7 x12_1 (bt a0 x12_1) x112007_1) (sx 8 x12_1 (bt a0 x12_1) x112008_1))) = some (r1, r2, r3, r4, r5, r6, r7, r8, r9, r10) := H
                have A13 := Aside0.mk A130
                clear A130
                by_cases c14 : t113 < 0
                · rw [if_pos c14] at H
                  have c14b0 : decide (t113 < 0) = true := decide_eq_true c14
                  clear c14
                  simp only [Option.some.injEq, Prod.mk.injEq] at H
                  obtain ⟨rfl, rfl, rfl, rfl, rfl, rfl, rfl, rfl, rfl, rfl⟩ := H
                  have p9 : 0 ≤ (x12_1 : Int) := of_decide_eq_true (by first | (with_reducible assumption) | assumption)
                  have q9 : x12_1 < (a0.size : Int) := of_decide_eq_true (by first | (with_reducible assumption) | assumption)
                  have hx9 := bt_at a0 x12_1
                  replace p9 := eq_true p9
                  replace q9 := eq_true q9
                  have hnb15 := NB111_110.out
                  have hnc15 := NB110_111.out
                  have hcz16_0 : wr.cell? ⟨gb111, 0, none⟩ = some (.int .u8 x112000_1) := (blk_cell BK111.out 0).trans rfl
                  have hcz16_1 : wr.cell? ⟨gb111, 1, none⟩ = some (.int .u8 x112001_1) := (blk_cell BK111.out 1).trans rfl
                  have hcz16_2 : wr.cell? ⟨gb111, 2, none⟩ = some (.int .u8 x112002_1) := (blk_cell BK111.out 2).trans rfl
                  have hcz16_3 : wr.cell? ⟨gb111, 3, none⟩ = some (.int .u8 x112003_1) := (blk_cell BK111.out 3).trans rfl
                  have hcz16_4 : wr.cell? ⟨gb111, 4, none⟩ = some (.int .u8 x112004_1) := (blk_cell BK111.out 4).trans rfl
                  have hcz16_5 : wr.cell? ⟨gb111, 5, none⟩ = some (.int .u8 x112005_1) := (blk_cell BK111.out 5).trans rfl
                  have hcz16_6 : wr.cell? ⟨gb111, 6, none⟩ = some (.int .u8 x112006_1) := (blk_cell BK111.out 6).trans rfl
                  have hcz16_7 : wr.cell? ⟨gb111, 7, none⟩ = some (.int .u8 x112007_1) := (blk_cell BK111.out 7).trans rfl
                  have hcz16_8 : wr.cell? ⟨gb111, 8, none⟩ = some (.int .u8 x112008_1) := (blk_cell BK111.out 8).trans rfl
                  have hfz16_0 := blk_frozen BK111.out 0
                  have hfz16_1 := blk_frozen BK111.out 1
                  have hfz16_2 := blk_frozen BK111.out 2
                  have hfz16_3 := blk_frozen BK111.out 3
                  have hfz16_4 := blk_frozen BK111.out 4
                  have hfz16_5 := blk_frozen BK111.out 5
                  have hfz16_6 := blk_frozen BK111.out 6
                  have hfz16_7 := blk_frozen BK111.out 7
                  have hfz16_8 := blk_frozen BK111.out 8
                  have hy17 := blk_frozen BK111.out (x12_1).toNat
                  have p18 : 0 ≤ (x12_1 : Int) := of_decide_eq_true (by first | (with_reducible assumption) | assumption)
                  have q18 : (x12_1 : Int) < 9 := of_decide_eq_true (by first | (with_reducible assumption) | assumption)
                  have hx18 : wr.cell? ⟨gb111, (x12_1).toNat, none⟩ = some (.int .u8 (ix9 x12_1 x112000_1 x112001_1 x112002_1 x112003_1 x112004_1 x112005_1 x112006_1 x112007_1 x112008_1)) := ixcell9 BK111.out (decide_eq_true p18) (decide_eq_true (Int.lt_of_lt_of_le q18 (by decide)))
                  replace p18 := eq_true p18
                  replace q18 := eq_true q18
                  go_wp2_with (first | ((with_reducible refine gate_store (t := 5) (p := 19) rfl ?_); (try (rw [drewN_self wr]; generalize hq_ : World.drewN wr _ = wr; have n0_ := Aside0.mk (blk_at hq_ BK110.out); have n1_ := Aside0.mk (blk_at hq_ BK111.out); have n2_ := Aside0.mk (below_at hq_ HB.out); clear hq_ BK110 BK111 HB; have BK110 := n0_; have BK111 := n1_; have HB := n2_; clear n0_ n1_ n2_)); refine store_event (t := 5) (p := 19) (v := ?vo_w19) (w1 := (wr.setCell ⟨gb111, (x12_1 : Int).toNat, none⟩ (.int .u8 (bt a0 x12_1)))) ?hg ?ho ?hn ?hr ?_; (case ho => rfl); (case hg => rfl); (case hn => rfl); (case hr => first | (go_simp; done) | (go_simp; rfl)); intro w19 hw; have n0_ : Aside0 (w19.heap[gb110]? = some (.cells #[.int .u8 x111000_1, .int .u8 x111001_1, .int .u8 x111002_1, .int .u8 x111003_1, .int .u8 x111004_1, .int .u8 x111005_1, .int .u8 x111006_1, .int .u8 x111007_1, .int .u8 x111008_1] 43 (0, 0))) := ⟨(by rw [hw]; exact (by (with_reducible repeat (first | refine blk_drewN ?_ _ | refine blk_drew ?_ | refine blk_alloc ?_ _)); refine blk_far ?_ NB110_111.out _; (with_reducible repeat (first | refine blk_drewN ?_ _ | refine blk_drew ?_ | refine blk_alloc ?_ _)); exact BK110.out))⟩; have n1_ : Aside0 (w19.heap[gb111]? = some (.cells #[.int .u8 (sx 0 x12_1 (bt a0 x12_1) x112000_1), .int .u8 (sx 1 x12_1 (bt a0 x12_1) x112001_1), .int .u8 (sx 2 x12_1 (bt a0 x12_1) x112002_1), .int .u8 (sx 3 x12_1 (bt a0 x12_1) x112003_1), .int .u8 (sx 4 x12_1 (bt a0 x12_1) x112004_1), .int .u8 (sx 5 x12_1 (bt a0 x12_1) x112005_1), .int .u8 (sx 6 x12_1 (bt a0 x12_1) x112006_1), .int .u8 (sx 7 x12_1 (bt a0 x12_1) x112007_1), .int .u8 (sx 8 x12_1 (bt a0 x12_1) x112008_1)] 43 (0, 0))) := ⟨(by rw [hw]; exact (by (with_reducible repeat (first | refine blk_drewN ?_ _ | refine blk_drew ?_ | refine blk_alloc ?_ _)); refine blk_setv9 (by first | assumption | decide | omega) (by first | assumption | decide | omega) ?_ _; (with_reducible repeat (first | refine blk_drewN ?_ _ | refine blk_drew ?_ | refine blk_alloc ?_ _)); exact BK111.out))⟩; have n2_ : Aside0 (Below w.heap.size w w19) := ⟨(by rw [hw]; exact (by repeat (first | (with_reducible first | exact HB.out | apply below_alloc | apply pw_below_drewN | apply below_drew1 | refine below_set ?_ GE110.out | refine below_set ?_ GE111.out) | exact HB.out)))⟩; clear hw; clear BK110; clear BK111; clear HB; have BK110 := n0_; have BK111 := n1_; have HB := n2_; clear n0_ n1_ n2_) | (go_at_call 41; (with_reducible refine (identity_at.calls x12_1 t112 _ A10.out).mono ?_); rintro e w' ⟨rfl, ⟨nd, rfl⟩⟩; (try first | exact ⟨rfl, _, World.drewN_drewN _ _ _⟩ | exact ⟨rfl, _, Eq.trans (World.drewN_drewN _ _ _) (congrArg (World.drewN _) (Nat.add_assoc _ _ _))⟩); have p12 : 0 ≤ (x12_1 : Int) := of_decide_eq_true (by first | (with_reducible assumption) | assumption); have q12 : x12_1 < (a0.size : Int) := of_decide_eq_true (by first | (with_reducible assumption) | assumption); have hx12 := bt_at a0 x12_1; replace p12 := eq_true p12; replace q12 := eq_true q12) | (go_at_call 34; (with_reducible refine (strings_IndexByte.calls (t112 ++ a1) (bt a0 x12_1) t113 _ A13.out).mono ?_); rintro e w' ⟨rfl, ⟨nd, rfl⟩⟩; (try first | exact ⟨rfl, _, World.drewN_drewN _ _ _⟩ | exact ⟨rfl, _, Eq.trans (World.drewN_drewN _ _ _) (congrArg (World.drewN _) (Nat.add_assoc _ _ _))⟩); have hcz20_0 : w19.cell? ⟨gb111, 0, none⟩ = some (.int .u8 (sx 0 x12_1 (bt a0 x12_1) x112000_1)) := (blk_cell BK111.out 0).trans rfl; have hcz20_1 : w19.cell? ⟨gb111, 1, none⟩ = some (.int .u8 (sx 1 x12_1 (bt a0 x12_1) x112001_1)) := (blk_cell BK111.out 1).trans rfl; have hcz20_2 : w19.cell? ⟨gb111, 2, none⟩ = some (.int .u8 (sx 2 x12_1 (bt a0 x12_1) x112002_1)) := (blk_cell BK111.out 2).trans rfl; have hcz20_3 : w19.cell? ⟨gb111, 3, none⟩ = some (.int .u8 (sx 3 x12_1 (bt a0 x12_1) x112003_1)) := (blk_cell BK111.out 3).trans rfl; have hcz20_4 : w19.cell? ⟨gb111, 4, none⟩ = some (.int .u8 (sx 4 x12_1 (bt a0 x12_1) x112004_1)) := (blk_cell BK111.out 4).trans rfl; have hcz20_5 : w19.cell? ⟨gb111, 5, none⟩ = some (.int .u8 (sx 5 x12_1 (bt a0 x12_1) x112005_1)) := (blk_cell BK111.out 5).trans rfl; have hcz20_6 : w19.cell? ⟨gb111, 6, none⟩ = some (.int .u8 (sx 6 x12_1 (bt a0 x12_1) x112006_1)) := (blk_cell BK111.out 6).trans rfl; have hcz20_7 : w19.cell? ⟨gb111, 7, none⟩ = some (.int .u8 (sx 7 x12_1 (bt a0 x12_1) x112007_1)) := (blk_cell BK111.out 7).trans rfl; have hcz20_8 : w19.cell? ⟨gb111, 8, none⟩ = some (.int .u8 (sx 8 x12_1 (bt a0 x12_1) x112008_1)) := (blk_cell BK111.out 8).trans rfl; have hfz20_0 := blk_frozen BK111.out 0; have hfz20_1 := blk_frozen BK111.out 1; have hfz20_2 := blk_frozen BK111.out 2; have hfz20_3 := blk_frozen BK111.out 3; have hfz20_4 := blk_frozen BK111.out 4; have hfz20_5 := blk_frozen BK111.out 5; have hfz20_6 := blk_frozen BK111.out 6; have hfz20_7 := blk_frozen BK111.out 7; have hfz20_8 := blk_frozen BK111.out 8; have hcz21_0 : w19.cell? ⟨gb110, 0, none⟩ = some (.int .u8 x111000_1) := (blk_cell BK110.out 0).trans rfl; have hcz21_1 : w19.cell? ⟨gb110, 1, none⟩ = some (.int .u8 x111001_1) := (blk_cell BK110.out 1).trans rfl; have hcz21_2 : w19.cell? ⟨gb110, 2, none⟩ = some (.int .u8 x111002_1) := (blk_cell BK110.out 2).trans rfl; have hcz21_3 : w19.cell? ⟨gb110, 3, none⟩ = some (.int .u8 x111003_1) := (blk_cell BK110.out 3).trans rfl; have hcz21_4 : w19.cell? ⟨gb110, 4, none⟩ = some (.int .u8 x111004_1) := (blk_cell BK110.out 4).trans rfl; have hcz21_5 : w19.cell? ⟨gb110, 5, none⟩ = some (.int .u8 x111005_1) := (blk_cell BK110.out 5).trans rfl; have hcz21_6 : w19.cell? ⟨gb110, 6, none⟩ = some (.int .u8 x111006_1) := (blk_cell BK110.out 6).trans rfl; have hcz21_7 : w19.cell? ⟨gb110, 7, none⟩ = some (.int .u8 x111007_1) := (blk_cell BK110.out 7).trans rfl; have hcz21_8 : w19.cell? ⟨gb110, 8, none⟩ = some (.int .u8 x111008_1) := (blk_cell BK110.out 8).trans rfl; have hfz21_0 := blk_frozen BK110.out 0; have hfz21_1 := blk_frozen BK110.out 1; have hfz21_2 := blk_frozen BK110.out 2; have hfz21_3 := blk_frozen BK110.out 3; have hfz21_4 := blk_frozen BK110.out 4; have hfz21_5 := blk_frozen BK110.out 5; have hfz21_6 := blk_frozen BK110.out 6; have hfz21_7 := blk_frozen BK110.out 7; have hfz21_8 := blk_frozen BK110.out 8))
                  repeat (go_quiet (first | ((with_reducible refine gate_store (t := 5) (p := 19) rfl ?_); (try (rw [drewN_self wr]; generalize hq_ : World.drewN wr _ = wr; have n0_ := Aside0.mk (blk_at hq_ BK110.out); have n1_ := Aside0.mk (blk_at hq_ BK111.out); have n2_ := Aside0.mk (below_at hq_ HB.out); clear hq_ BK110 BK111 HB; have BK110 := n0_; have BK111 := n1_; have HB := n2_; clear n0_ n1_ n2_)); refine store_event (t := 5) (p := 19) (v := ?vo_w19) (w1 := (wr.setCell ⟨gb111, (x12_1 : Int).toNat, none⟩ (.int .u8 (bt a0 x12_1)))) ?hg ?ho ?hn ?hr ?_; (case ho => rfl); (case hg => rfl); (case hn => rfl); (case hr => first | (go_simp; done) | (go_simp; rfl)); intro w19 hw; have n0_ : Aside0 (w19.heap[gb110]? = some (.cells #[.int .u8 x111000_1, .int .u8 x111001_1, .int .u8 x111002_1, .int .u8 x111003_1, .int .u8 x111004_1, .int .u8 x111005_1, .int .u8 x111006_1, .int .u8 x111007_1, .int .u8 x111008_1] 43 (0, 0))) := ⟨(by rw [hw]; exact (by (with_reducible repeat (first | refine blk_drewN ?_ _ | refine blk_drew ?_ | refine blk_alloc ?_ _)); refine blk_far ?_ NB110_111.out _; (with_reducible repeat (first | refine blk_drewN ?_ _ | refine blk_drew ?_ | refine blk_alloc ?_ _)); exact BK110.out))⟩; have n1_ : Aside0 (w19.heap[gb111]? = some (.cells #[.int .u8 (sx 0 x12_1 (bt a0 x12_1) x112000_1), .int .u8 (sx 1 x12_1 (bt a0 x12_1) x112001_1), .int .u8 (sx 2 x12_1 (bt a0 x12_1) x112002_1), .int .u8 (sx 3 x12_1 (bt a0 x12_1) x112003_1), .int .u8 (sx 4 x12_1 (bt a0 x12_1) x112004_1), .int .u8 (sx 5 x12_1 (bt a0 x12_1) x112005_1), .int .u8 (sx 6 x12_1 (bt a0 x12_1) x112006_1), .int .u8 (sx 7 x12_1 (bt a0 x12_1) x112007_1), .int .u8 (sx 8 x12_1 (bt a0 x12_1) x112008_1)] 43 (0, 0))) := ⟨(by rw [hw]; exact (by (with_reducible repeat (first | refine blk_drewN ?_ _ | refine blk_drew ?_ | refine blk_alloc ?_ _)); refine blk_setv9 (by first | assumption | decide | omega) (by first | assumption | decide | omega) ?_ _; (with_reducible repeat (first | refine blk_drewN ?_ _ | refine blk_drew ?_ | refine blk_alloc ?_ _)); exact BK111.out))⟩; have n2_ : Aside0 (Below w.heap.size w w19) := ⟨(by rw [hw]; exact (by repeat (first | (with_reducible first | exact HB.out | apply below_alloc | apply pw_below_drewN | apply below_drew1 | refine below_set ?_ GE110.out | refine below_set ?_ GE111.out) | exact HB.out)))⟩; clear hw; clear BK110; clear BK111; clear HB; have BK110 := n0_; have BK111 := n1_; have HB := n2_; clear n0_ n1_ n2_) | (go_at_call 41; (with_reducible refine (identity_at.calls x12_1 t112 _ A10.out).mono ?_); rintro e w' ⟨rfl, ⟨nd, rfl⟩⟩; (try first | exact ⟨rfl, _, World.drewN_drewN _ _ _⟩ | exact ⟨rfl, _, Eq.trans (World.drewN_drewN _ _ _) (congrArg (World.drewN _) (Nat.add_assoc _ _ _))⟩); have p12 : 0 ≤ (x12_1 : Int) := of_decide_eq_true (by first | (with_reducible assumption) | assumption); have q12 : x12_1 < (a0.size : Int) := of_decide_eq_true (by first | (with_reducible assumption) | assumption); have hx12 := bt_at a0 x12_1; replace p12 := eq_true p12; replace q12 := eq_true q12) | (go_at_call 34; (with_reducible refine (strings_IndexByte.calls (t112 ++ a1) (bt a0 x12_1) t113 _ A13.out).mono ?_); rintro e w' ⟨rfl, ⟨nd, rfl⟩⟩; (try first | exact ⟨rfl, _, World.drewN_drewN _ _ _⟩ | exact ⟨rfl, _, Eq.trans (World.drewN_drewN _ _ _) (congrArg (World.drewN _) (Nat.add_assoc _ _ _))⟩); have hcz20_0 : w19.cell? ⟨gb111, 0, none⟩ = some (.int .u8 (sx 0 x12_1 (bt a0 x12_1) x112000_1)) := (blk_cell BK111.out 0).trans rfl; have hcz20_1 : w19.cell? ⟨gb111, 1, none⟩ = some (.int .u8 (sx 1 x12_1 (bt a0 x12_1) x112001_1)) := (blk_cell BK111.out 1).trans rfl; have hcz20_2 : w19.cell? ⟨gb111, 2, none⟩ = some (.int .u8 (sx 2 x12_1 (bt a0 x12_1) x112002_1)) := (blk_cell BK111.out 2).trans rfl; have hcz20_3 : w19.cell? ⟨gb111, 3, none⟩ = some (.int .u8 (sx 3 x12_1 (bt a0 x12_1) x112003_1)) := (blk_cell BK111.out 3).trans rfl; have hcz20_4 : w19.cell? ⟨gb111, 4, none⟩ = some (.int .u8 (sx 4 x12_1 (bt a0 x12_1) x112004_1)) := (blk_cell BK111.out 4).trans rfl; have hcz20_5 : w19.cell? ⟨gb111, 5, none⟩ = some (.int .u8 (sx 5 x12_1 (bt a0 x12_1) x112005_1)) := (blk_cell BK111.out 5).trans rfl; have hcz20_6 : w19.cell? ⟨gb111, 6, none⟩ = some (.int .u8 (sx 6 x12_1 (bt a0 x12_1) x112006_1)) := (blk_cell BK111.out 6).trans rfl; have hcz20_7 : w19.cell? ⟨gb111, 7, none⟩ = some (.int .u8 (sx 7 x12_1 (bt a0 x12_1) x112007_1)) := (blk_cell BK111.out 7).trans rfl; have hcz20_8 : w19.cell? ⟨gb111, 8, none⟩ = some (.int .u8 (sx 8 x12_1 (bt a0 x12_1) x112008_1)) := (blk_cell BK111.out 8).trans rfl; have hfz20_0 := blk_frozen BK111.out 0; have hfz20_1 := blk_frozen BK111.out 1; have hfz20_2 := blk_frozen BK111.out 2; have hfz20_3 := blk_frozen BK111.out 3; have hfz20_4 := blk_frozen BK111.out 4; have hfz20_5 := blk_frozen BK111.out 5; have hfz20_6 := blk_frozen BK111.out 6; have hfz20_7 := blk_frozen BK111.out 7; have hfz20_8 := blk_frozen BK111.out 8; have hcz21_0 : w19.cell? ⟨gb110, 0, none⟩ = some (.int .u8 x111000_1) := (blk_cell BK110.out 0).trans rfl; have hcz21_1 : w19.cell? ⟨gb110, 1, none⟩ = some (.int .u8 x111001_1) := (blk_cell BK110.out 1).trans rfl; have hcz21_2 : w19.cell? ⟨gb110, 2, none⟩ = some (.int .u8 x111002_1) := (blk_cell BK110.out 2).trans rfl; have hcz21_3 : w19.cell? ⟨gb110, 3, none⟩ = some (.int .u8 x111003_1) := (blk_cell BK110.out 3).trans rfl; have hcz21_4 : w19.cell? ⟨gb110, 4, none⟩ = some (.int .u8 x111004_1) := (blk_cell BK110.out 4).trans rfl; have hcz21_5 : w19.cell? ⟨gb110, 5, none⟩ = some (.int .u8 x111005_1) := (blk_cell BK110.out 5).trans rfl; have hcz21_6 : w19.cell? ⟨gb110, 6, none⟩ = some (.int .u8 x111006_1) := (blk_cell BK110.out 6).trans rfl; have hcz21_7 : w19.cell? ⟨gb110, 7, none⟩ = some (.int .u8 x111007_1) := (blk_cell BK110.out 7).trans rfl; have hcz21_8 : w19.cell? ⟨gb110, 8, none⟩ = some (.int .u8 x111008_1) := (blk_cell BK110.out 8).trans rfl; have hfz21_0 := blk_frozen BK110.out 0; have hfz21_1 := blk_frozen BK110.out 1; have hfz21_2 := blk_frozen BK110.out 2; have hfz21_3 := blk_frozen BK110.out 3; have hfz21_4 := blk_frozen BK110.out 4; have hfz21_5 := blk_frozen BK110.out 5; have hfz21_6 := blk_frozen BK110.out 6; have hfz21_7 := blk_frozen BK110.out 7; have hfz21_8 := blk_frozen BK110.out 8)); try go_wp2_with (first | ((with_reducible refine gate_store (t := 5) (p := 19) rfl ?_); (try (rw [drewN_self wr]; generalize hq_ : World.drewN wr _ = wr; have n0_ := Aside0.mk (blk_at hq_ BK110.out); have n1_ := Aside0.mk (blk_at hq_ BK111.out); have n2_ := Aside0.mk (below_at hq_ HB.out); clear hq_ BK110 BK111 HB; have BK110 := n0_; have BK111 := n1_; have HB := n2_; clear n0_ n1_ n2_)); refine store_event (t := 5) (p := 19) (v := ?vo_w19) (w1 := (wr.setCell ⟨gb111, (x12_1 : Int).toNat, none⟩ (.int .u8 (bt a0 x12_1)))) ?hg ?ho ?hn ?hr ?_; (case ho => rfl); (case hg => rfl); (case hn => rfl); (case hr => first | (go_simp; done) | (go_simp; rfl)); intro w19 hw; have n0_ : Aside0 (w19.heap[gb110]? = some (.cells #[.int .u8 x111000_1, .int .u8 x111001_1, .int .u8 x111002_1, .int .u8 x111003_1, .int .u8 x111004_1, .int .u8 x111005_1, .int .u8 x111006_1, .int .u8 x111007_1, .int .u8 x111008_1] 43 (0, 0))) := ⟨(by rw [hw]; exact (by (with_reducible repeat (first | refine blk_drewN ?_ _ | refine blk_drew ?_ | refine blk_alloc ?_ _)); refine blk_far ?_ NB110_111.out _; (with_reducible repeat (first | refine blk_drewN ?_ _ | refine blk_drew ?_ | refine blk_alloc ?_ _)); exact BK110.out))⟩; have n1_ : Aside0 (w19.heap[gb111]? = some (.cells #[.int .u8 (sx 0 x12_1 (bt a0 x12_1) x112000_1), .int .u8 (sx 1 x12_1 (bt a0 x12_1) x112001_1), .int .u8 (sx 2 x12_1 (bt a0 x12_1) x112002_1), .int .u8 (sx 3 x12_1 (bt a0 x12_1) x112003_1), .int .u8 (sx 4 x12_1 (bt a0 x12_1) x112004_1), .int .u8 (sx 5 x12_1 (bt a0 x12_1) x112005_1), .int .u8 (sx 6 x12_1 (bt a0 x12_1) x112006_1), .int .u8 (sx 7 x12_1 (bt a0 x12_1) x112007_1), .int .u8 (sx 8 x12_1 (bt a0 x12_1) x112008_1)] 43 (0, 0))) := ⟨(by rw [hw]; exact (by (with_reducible repeat (first | refine blk_drewN ?_ _ | refine blk_drew ?_ | refine blk_alloc ?_ _)); refine blk_setv9 (by first | assumption | decide | omega) (by first | assumption | decide | omega) ?_ _; (with_reducible repeat (first | refine blk_drewN ?_ _ | refine blk_drew ?_ | refine blk_alloc ?_ _)); exact BK111.out))⟩; have n2_ : Aside0 (Below w.heap.size w w19) := ⟨(by rw [hw]; exact (by repeat (first | (with_reducible first | exact HB.out | apply below_alloc | apply pw_below_drewN | apply below_drew1 | refine below_set ?_ GE110.out | refine below_set ?_ GE111.out) | exact HB.out)))⟩; clear hw; clear BK110; clear BK111; clear HB; have BK110 := n0_; have BK111 := n1_; have HB := n2_; clear n0_ n1_ n2_) | (go_at_call 41; (with_reducible refine (identity_at.calls x12_1 t112 _ A10.out).mono ?_); rintro e w' ⟨rfl, ⟨nd, rfl⟩⟩; (try first | exact ⟨rfl, _, World.drewN_drewN _ _ _⟩ | exact ⟨rfl, _, Eq.trans (World.drewN_drewN _ _ _) (congrArg (World.drewN _) (Nat.add_assoc _ _ _))⟩); have p12 : 0 ≤ (x12_1 : Int) := of_decide_eq_true (by first | (with_reducible assumption) | assumption); have q12 : x12_1 < (a0.size : Int) := of_decide_eq_true (by first | (with_reducible assumption) | assumption); have hx12 := bt_at a0 x12_1; replace p12 := eq_true p12; replace q12 := eq_true q12) | (go_at_call 34; (with_reducible refine (strings_IndexByte.calls (t112 ++ a1) (bt a0 x12_1) t113 _ A13.out).mono ?_); rintro e w' ⟨rfl, ⟨nd, rfl⟩⟩; (try first | exact ⟨rfl, _, World.drewN_drewN _ _ _⟩ | exact ⟨rfl, _, Eq.trans (World.drewN_drewN _ _ _) (congrArg (World.drewN _) (Nat.add_assoc _ _ _))⟩); have hcz20_0 : w19.cell? ⟨gb111, 0, none⟩ = some (.int .u8 (sx 0 x12_1 (bt a0 x12_1) x112000_1)) := (blk_cell BK111.out 0).trans rfl; have hcz20_1 : w19.cell? ⟨gb111, 1, none⟩ = some (.int .u8 (sx 1 x12_1 (bt a0 x12_1) x112001_1)) := (blk_cell BK111.out 1).trans rfl; have hcz20_2 : w19.cell? ⟨gb111, 2, none⟩ = some (.int .u8 (sx 2 x12_1 (bt a0 x12_1) x112002_1)) := (blk_cell BK111.out 2).trans rfl; have hcz20_3 : w19.cell? ⟨gb111, 3, none⟩ = some (.int .u8 (sx 3 x12_1 (bt a0 x12_1) x112003_1)) := (blk_cell BK111.out 3).trans rfl; have hcz20_4 : w19.cell? ⟨gb111, 4, none⟩ = some (.int .u8 (sx 4 x12_1 (bt a0 x12_1) x112004_1)) := (blk_cell BK111.out 4).trans rfl; have hcz20_5 : w19.cell? ⟨gb111, 5, none⟩ = some (.int .u8 (sx 5 x12_1 (bt a0 x12_1) x112005_1)) := (blk_cell BK111.out 5).trans rfl; have hcz20_6 : w19.cell? ⟨gb111, 6, none⟩ = some (.int .u8 (sx 6 x12_1 (bt a0 x12_1) x112006_1)) := (blk_cell BK111.out 6).trans rfl; have hcz20_7 : w19.cell? ⟨gb111, 7, none⟩ = some (.int .u8 (sx 7 x12_1 (bt a0 x12_1) x112007_1)) := (blk_cell BK111.out 7).trans rfl; have hcz20_8 : w19.cell? ⟨gb111, 8, none⟩ = some (.int .u8 (sx 8 x12_1 (bt a0 x12_1) x112008_1)) := (blk_cell BK111.out 8).trans rfl; have hfz20_0 := blk_frozen BK111.out 0; have hfz20_1 := blk_frozen BK111.out 1; have hfz20_2 := blk_frozen BK111.out 2; have hfz20_3 := blk_frozen BK111.out 3; have hfz20_4 := blk_frozen BK111.out 4; have hfz20_5 := blk_frozen BK111.out 5; have hfz20_6 := blk_frozen BK111.out 6; have hfz20_7 := blk_frozen BK111.out 7; have hfz20_8 := blk_frozen BK111.out 8; have hcz21_0 : w19.cell? ⟨gb110, 0, none⟩ = some (.int .u8 x111000_1) := (blk_cell BK110.out 0).trans rfl; have hcz21_1 : w19.cell? ⟨gb110, 1, none⟩ = some (.int .u8 x111001_1) := (blk_cell BK110.out 1).trans rfl; have hcz21_2 : w19.cell? ⟨gb110, 2, none⟩ = some (.int .u8 x111002_1) := (blk_cell BK110.out 2).trans rfl; have hcz21_3 : w19.cell? ⟨gb110, 3, none⟩ = some (.int .u8 x111003_1) := (blk_cell BK110.out 3).trans rfl; have hcz21_4 : w19.cell? ⟨gb110, 4, none⟩ = some (.int .u8 x111004_1) := (blk_cell BK110.out 4).trans rfl; have hcz21_5 : w19.cell? ⟨gb110, 5, none⟩ = some (.int .u8 x111005_1) := (blk_cell BK110.out 5).trans rfl; have hcz21_6 : w19.cell? ⟨gb110, 6, none⟩ = some (.int .u8 x111006_1) := (blk_cell BK110.out 6).trans rfl; have hcz21_7 : w19.cell? ⟨gb110, 7, none⟩ = some (.int .u8 x111007_1) := (blk_cell BK110.out 7).trans rfl; have hcz21_8 : w19.cell? ⟨gb110, 8, none⟩ = some (.int .u8 x111008_1) := (blk_cell BK110.out 8).trans rfl; have hfz21_0 := blk_frozen BK110.out 0; have hfz21_1 := blk_frozen BK110.out 1; have hfz21_2 := blk_frozen BK110.out 2; have hfz21_3 := blk_frozen BK110.out 3; have hfz21_4 := blk_frozen BK110.out 4; have hfz21_5 := blk_frozen BK110.out 5; have hfz21_6 := blk_frozen BK110.out 6; have hfz21_7 := blk_frozen BK110.out 7; have hfz21_8 := blk_frozen BK110.out 8)))
                  refine bodyPost_ret (results_ct rfl _ _ gb110 43 #[.int .u8 (sx 0 x12_1 (bt a0 x12_1) x112000_1), .int .u8 (sx 1 x12_1 (bt a0 x12_1) x112001_1), .int .u8 (sx 2 x12_1 (bt a0 x12_1) x112002_1), .int .u8 (sx 3 x12_1 (bt a0 x12_1) x112003_1), .int .u8 (sx 4 x12_1 (bt a0 x12_1) x112004_1), .int .u8 (sx 5 x12_1 (bt a0 x12_1) x112005_1), .int .u8 (sx 6 x12_1 (bt a0 x12_1) x112006_1), .int .u8 (sx 7 x12_1 (bt a0 x12_1) x112007_1), .int .u8 (sx 8 x12_1 (bt a0 x12_1) x112008_1)] (0, 0) _ rfl (by (with_reducible repeat (first | refine blk_drewN ?_ _ | refine blk_drew ?_ | refine blk_alloc ?_ _)); refine blk_put (cs := #[.int .u8 (sx 0 x12_1 (bt a0 x12_1) x112000_1), .int .u8 (sx 1 x12_1 (bt a0 x12_1) x112001_1), .int .u8 (sx 2 x12_1 (bt a0 x12_1) x112002_1), .int .u8 (sx 3 x12_1 (bt a0 x12_1) x112003_1), .int .u8 (sx 4 x12_1 (bt a0 x12_1) x112004_1), .int .u8 (sx 5 x12_1 (bt a0 x12_1) x112005_1), .int .u8 (sx 6 x12_1 (bt a0 x12_1) x112006_1), .int .u8 (sx 7 x12_1 (bt a0 x12_1) x112007_1), .int .u8 x111008_1]) ?_ 8 _ rfl; (with_reducible repeat (first | refine blk_drewN ?_ _ | refine blk_drew ?_ | refine blk_alloc ?_ _)); refine blk_put (cs := #[.int .u8 (sx 0 x12_1 (bt a0 x12_1) x112000_1), .int .u8 (sx 1 x12_1 (bt a0 x12_1) x112001_1), .int .u8 (sx 2 x12_1 (bt a0 x12_1) x112002_1), .int .u8 (sx 3 x12_1 (bt a0 x12_1) x112003_1), .int .u8 (sx 4 x12_1 (bt a0 x12_1) x112004_1), .int .u8 (sx 5 x12_1 (bt a0 x12_1) x112005_1), .int .u8 (sx 6 x12_1 (bt a0 x12_1) x112006_1), .int .u8 x111007_1, .int .u8 x111008_1]) ?_ 7 _ rfl; (with_reducible repeat (first | refine blk_drewN ?_ _ | refine blk_drew ?_ | refine blk_alloc ?_ _)); refine blk_put (cs := #[.int .u8 (sx 0 x12_1 (bt a0 x12_1) x112000_1), .int .u8 (sx 1 x12_1 (bt a0 x12_1) x112001_1), .int .u8 (sx 2 x12_1 (bt a0 x12_1) x112002_1), .int .u8 (sx 3 x12_1 (bt a0 x12_1) x112003_1), .int .u8 (sx 4 x12_1 (bt a0 x12_1) x112004_1), .int .u8 (sx 5 x12_1 (bt a0 x12_1) x112005_1), .int .u8 x111006_1, .int .u8 x111007_1, .int .u8 x111008_1]) ?_ 6 _ rfl; (with_reducible repeat (first | refine blk_drewN ?_ _ | refine blk_drew ?_ | refine blk_alloc ?_ _)); refine blk_put (cs := #[.int .u8 (sx 0 x12_1 (bt a0 x12_1) x112000_1), .int .u8 (sx 1 x12_1 (bt a0 x12_1) x112001_1), .int .u8 (sx 2 x12_1 (bt a0 x12_1) x112002_1), .int .u8 (sx 3 x12_1 (bt a0 x12_1) x112003_1), .int .u8 (sx 4 x12_1 (bt a0 x12_1) x112004_1), .int .u8 x111005_1, .int .u8 x111006_1, .int .u8 x111007_1, .int .u8 x111008_1]) ?_ 5 _ rfl; (with_reducible repeat (first | refine blk_drewN ?_ _ | refine blk_drew ?_ | refine blk_alloc ?_ _)); refine blk_put (cs := #[.int .u8 (sx 0 x12_1 (bt a0 x12_1) x112000_1), .int .u8 (sx 1 x12_1 (bt a0 x12_1) x112001_1), .int .u8 (sx 2 x12_1 (bt a0 x12_1) x112002_1), .int .u8 (sx 3 x12_1 (bt a0 x12_1) x112003_1), .int .u8 x111004_1, .int .u8 x111005_1, .int .u8 x111006_1, .int .u8 x111007_1, .int .u8 x111008_1]) ?_ 4 _ rfl; (with_reducible repeat (first | refine blk_drewN ?_ _ | refine blk_drew ?_ | refine blk_alloc ?_ _)); refine blk_put (cs := #[.int .u8 (sx 0 x12_1 (bt a0 x12_1) x112000_1), .int .u8 (sx 1 x12_1 (bt a0 x12_1) x112001_1), .int .u8 (sx 2 x12_1 (bt a0 x12_1) x112002_1), .int .u8 x111003_1, .int .u8 x111004_1, .int .u8 x111005_1, .int .u8 x111006_1, .int .u8 x111007_1, .int .u8 x111008_1]) ?_ 3 _ rfl; (with_reducible repeat (first | refine blk_drewN ?_ _ | refine blk_drew ?_ | refine blk_alloc ?_ _)); refine blk_put (cs := #[.int .u8 (sx 0 x12_1 (bt a0 x12_1) x112000_1), .int .u8 (sx 1 x12_1 (bt a0 x12_1) x112001_1), .int .u8 x111002_1, .int .u8 x111003_1, .int .u8 x111004_1, .int .u8 x111005_1, .int .u8 x111006_1, .int .u8 x111007_1, .int .u8 x111008_1]) ?_ 2 _ rfl; (with_reducible repeat (first | refine blk_drewN ?_ _ | refine blk_drew ?_ | refine blk_alloc ?_ _)); refine blk_put (cs := #[.int .u8 (sx 0 x12_1 (bt a0 x12_1) x112000_1), .int .u8 x111001_1, .int .u8 x111002_1, .int .u8 x111003_1, .int .u8 x111004_1, .int .u8 x111005_1, .int .u8 x111006_1, .int .u8 x111007_1, .int .u8 x111008_1]) ?_ 1 _ rfl; (with_reducible repeat (first | refine blk_drewN ?_ _ | refine blk_drew ?_ | refine blk_alloc ?_ _)); refine blk_put (cs := #[.int .u8 x111000_1, .int .u8 x111001_1, .int .u8 x111002_1, .int .u8 x111003_1, .int .u8 x111004_1, .int .u8 x111005_1, .int .u8 x111006_1, .int .u8 x111007_1, .int .u8 x111008_1]) ?_ 0 _ rfl; (with_reducible repeat (first | refine blk_drewN ?_ _ | refine blk_drew ?_ | refine blk_alloc ?_ _)); exact BK110.out) Try.underlying43 rfl (by kernel_rfl)) rfl ?_
                  exact ⟨by first | rfl | (simp [errW_none, errW_some] <;> rfl) | (simp [*, errW_none, errW_some] <;> rfl), by repeat (first | (with_reducible first | exact HB.out | apply below_alloc | apply pw_below_drewN | apply below_drew1 | refine below_set ?_ GE110.out | refine below_set ?_ GE111.out) | exact HB.out)⟩
                · rw [if_neg c14] at H
                  have c14b0 : decide (t113 < 0) = false := decide_eq_false c14
                  clear c14
                  have H' := Aside0.mk H
                  clear H
                  have p9 : 0 ≤ (x12_1 : Int) := of_decide_eq_true (by first | (with_reducible assumption) | assumption)
                  have q9 : x12_1 < (a0.size : Int) := of_decide_eq_true (by first | (with_reducible assumption) | assumption)
                  have hx9 := bt_at a0 x12_1
                  replace p9 := eq_true p9
                  replace q9 := eq_true q9
                  have hnb22 := NB111_110.out
                  have hnc22 := NB110_111.out
                  have hcz23_0 : wr.cell? ⟨gb111, 0, none⟩ = some (.int .u8 x112000_1) := (blk_cell BK111.out 0).trans rfl
                  have hcz23_1 : wr.cell? ⟨gb111, 1, none⟩ = some (.int .u8 x112001_1) := (blk_cell BK111.out 1).trans rfl
                  have hcz23_2 : wr.cell? ⟨gb111, 2, none⟩ = some (.int .u8 x112002_1) := (blk_cell BK111.out 2).trans rfl
                  have hcz23_3 : wr.cell? ⟨gb111, 3, none⟩ = some (.int .u8 x112003_1) := (blk_cell BK111.out 3).trans rfl
                  have hcz23_4 : wr.cell? ⟨gb111, 4, none⟩ = some (.int .u8 x112004_1) := (blk_cell BK111.out 4).trans rfl
                  have hcz23_5 : wr.cell? ⟨gb111, 5, none⟩ = some (.int .u8 x112005_1) := (blk_cell BK111.out 5).trans rfl
                  have hcz23_6 : wr.cell? ⟨gb111, 6, none⟩ = some (.int .u8 x112006_1) := (blk_cell BK111.out 6).trans rfl
                  have hcz23_7 : wr.cell? ⟨gb111, 7, none⟩ = some (.int .u8 x112007_1) := (blk_cell BK111.out 7).trans rfl
                  have hcz23_8 : wr.cell? ⟨gb111, 8, none⟩ = some (.int .u8 x112008_1) := (blk_cell BK111.out 8).trans rfl
                  have hfz23_0 := blk_frozen BK111.out 0
                  have hfz23_1 := blk_frozen BK111.out 1
                  have hfz23_2 := blk_frozen BK111.out 2
                  have hfz23_3 := blk_frozen BK111.out 3
                  have hfz23_4 := blk_frozen BK111.out 4
                  have hfz23_5 := blk_frozen BK111.out 5
                  have hfz23_6 := blk_frozen BK111.out 6
                  have hfz23_7 := blk_frozen BK111.out 7
                  have hfz23_8 := blk_frozen BK111.out 8
                  have hy24 := blk_frozen BK111.out (x12_1).toNat
                  have p25 : 0 ≤ (x12_1 : Int) := of_decide_eq_true (by first | (with_reducible assumption) | assumption)
                  have q25 : (x12_1 : Int) < 9 := of_decide_eq_true (by first | (with_reducible assumption) | assumption)
                  have hx25 : wr.cell? ⟨gb111, (x12_1).toNat, none⟩ = some (.int .u8 (ix9 x12_1 x112000_1 x112001_1 x112002_1 x112003_1 x112004_1 x112005_1 x112006_1 x112007_1 x112008_1)) := ixcell9 BK111.out (decide_eq_true p25) (decide_eq_true (Int.lt_of_lt_of_le q25 (by decide)))
                  replace p25 := eq_true p25
                  replace q25 := eq_true q25
                  go_wp2_with (first | ((with_reducible refine gate_store (t := 5) (p := 19) rfl ?_); (try (rw [drewN_self wr]; generalize hq_ : World.drewN wr _ = wr; have n0_ := Aside0.mk (blk_at hq_ BK110.out); have n1_ := Aside0.mk (blk_at hq_ BK111.out); have n2_ := Aside0.mk (below_at hq_ HB.out); clear hq_ BK110 BK111 HB; have BK110 := n0_; have BK111 := n1_; have HB := n2_; clear n0_ n1_ n2_)); refine store_event (t := 5) (p := 19) (v := ?vo_w26) (w1 := (wr.setCell ⟨gb111, (x12_1 : Int).toNat, none⟩ (.int .u8 (bt a0 x12_1)))) ?hg ?ho ?hn ?hr ?_; (case ho => rfl); (case hg => rfl); (case hn => rfl); (case hr => first | (go_simp; done) | (go_simp; rfl)); intro w26 hw; have n0_ : Aside0 (w26.heap[gb110]? = some (.cells #[.int .u8 x111000_1, .int .u8 x111001_1, .int .u8 x111002_1, .int .u8 x111003_1, .int .u8 x111004_1, .int .u8 x111005_1, .int .u8 x111006_1, .int .u8 x111007_1, .int .u8 x111008_1] 43 (0, 0))) := ⟨(by rw [hw]; exact (by (with_reducible repeat (first | refine blk_drewN ?_ _ | refine blk_drew ?_ | refine blk_alloc ?_ _)); refine blk_far ?_ NB110_111.out _; (with_reducible repeat (first | refine blk_drewN ?_ _ | refine blk_drew ?_ | refine blk_alloc ?_ _)); exact BK110.out))⟩; have n1_ : Aside0 (w26.heap[gb111]? = some (.cells #[.int .u8 (sx 0 x12_1 (bt a0 x12_1) x112000_1), .int .u8 (sx 1 x12_1 (bt a0 x12_1) x112001_1), .int .u8 (sx 2 x12_1 (bt a0 x12_1) x112002_1), .int .u8 (sx 3 x12_1 (bt a0 x12_1) x112003_1), .int .u8 (sx 4 x12_1 (bt a0 x12_1) x112004_1), .int .u8 (sx 5 x12_1 (bt a0 x12_1) x112005_1), .int .u8 (sx 6 x12_1 (bt a0 x12_1) x112006_1), .int .u8 (sx 7 x12_1 (bt a0 x12_1) x112007_1), .int .u8 (sx 8 x12_1 (bt a0 x12_1) x112008_1)] 43 (0, 0))) := ⟨(by rw [hw]; exact (by (with_reducible repeat (first | refine blk_drewN ?_ _ | refine blk_drew ?_ | refine blk_alloc ?_ _)); refine blk_setv9 (by first | assumption | decide | omega) (by first | assumption | decide | omega) ?_ _; (with_reducible repeat (first | refine blk_drewN ?_ _ | refine blk_drew ?_ | refine blk_alloc ?_ _)); exact BK111.out))⟩; have n2_ : Aside0 (Below w.heap.size w w26) := ⟨(by rw [hw]; exact (by repeat (first | (with_reducible first | exact HB.out | apply below_alloc | apply pw_below_drewN | apply below_drew1 | refine below_set ?_ GE110.out | refine below_set ?_ GE111.out) | exact HB.out)))⟩; clear hw; clear BK110; clear BK111; clear HB; have BK110 := n0_; have BK111 := n1_; have HB := n2_; clear n0_ n1_ n2_) | (go_at_call 41; (with_reducible refine (identity_at.calls x12_1 t112 _ A10.out).mono ?_); rintro e w' ⟨rfl, ⟨nd, rfl⟩⟩; (try first | exact ⟨rfl, _, World.drewN_drewN _ _ _⟩ | exact ⟨rfl, _, Eq.trans (World.drewN_drewN _ _ _) (congrArg (World.drewN _) (Nat.add_assoc _ _ _))⟩); have p12 : 0 ≤ (x12_1 : Int) := of_decide_eq_true (by first | (with_reducible assumption) | assumption); have q12 : x12_1 < (a0.size : Int) := of_decide_eq_true (by first | (with_reducible assumption) | assumption); have hx12 := bt_at a0 x12_1; replace p12 := eq_true p12; replace q12 := eq_true q12) | (go_at_call 34; (with_reducible refine (strings_IndexByte.calls (t112 ++ a1) (bt a0 x12_1) t113 _ A13.out).mono ?_); rintro e w' ⟨rfl, ⟨nd, rfl⟩⟩; (try first | exact ⟨rfl, _, World.drewN_drewN _ _ _⟩ | exact ⟨rfl, _, Eq.trans (World.drewN_drewN _ _ _) (congrArg (World.drewN _) (Nat.add_assoc _ _ _))⟩)))
                  repeat (go_quiet (first | ((with_reducible refine gate_store (t := 5) (p := 19) rfl ?_); (try (rw [drewN_self wr]; generalize hq_ : World.drewN wr _ = wr; have n0_ := Aside0.mk (blk_at hq_ BK110.out); have n1_ := Aside0.mk (blk_at hq_ BK111.out); have n2_ := Aside0.mk (below_at hq_ HB.out); clear hq_ BK110 BK111 HB; have BK110 := n0_; have BK111 := n1_; have HB := n2_; clear n0_ n1_ n2_)); refine store_event (t := 5) (p := 19) (v := ?vo_w26) (w1 := (wr.setCell ⟨gb111, (x12_1 : Int).toNat, none⟩ (.int .u8 (bt a0 x12_1)))) ?hg ?ho ?hn ?hr ?_; (case ho => rfl); (case hg => rfl); (case hn => rfl); (case hr => first | (go_simp; done) | (go_simp; rfl)); intro w26 hw; have n0_ : Aside0 (w26.heap[gb110]? = some (.cells #[.int .u8 x111000_1, .int .u8 x111001_1, .int .u8 x111002_1, .int .u8 x111003_1, .int .u8 x111004_1, .int .u8 x111005_1, .int .u8 x111006_1, .int .u8 x111007_1, .int .u8 x111008_1] 43 (0, 0))) := ⟨(by rw [hw]; exact (by (with_reducible repeat (first | refine blk_drewN ?_ _ | refine blk_drew ?_ | refine blk_alloc ?_ _)); refine blk_far ?_ NB110_111.out _; (with_reducible repeat (first | refine blk_drewN ?_ _ | refine blk_drew ?_ | refine blk_alloc ?_ _)); exact BK110.out))⟩; have n1_ : Aside0 (w26.heap[gb111]? = some (.cells #[.int .u8 (sx 0 x12_1 (bt a0 x12_1) x112000_1), .int .u8 (sx 1 x12_1 (bt a0 x12_1) x112001_1), .int .u8 (sx 2 x12_1 (bt a0 x12_1) x112002_1), .int .u8 (sx 3 x12_1 (bt a0 x12_1) x112003_1), .int .u8 (sx 4 x12_1 (bt a0 x12_1) x112004_1), .int .u8 (sx 5 x12_1 (bt a0 x12_1) x112005_1), .int .u8 (sx 6 x12_1 (bt a0 x12_1) x112006_1), .int .u8 (sx 7 x12_1 (bt a0 x12_1) x112007_1), .int .u8 (sx 8 x12_1 (bt a0 x12_1) x112008_1)] 43 (0, 0))) := ⟨(by rw [hw]; exact (by (with_reducible repeat (first | refine blk_drewN ?_ _ | refine blk_drew ?_ | refine blk_alloc ?_ _)); refine blk_setv9 (by first | assumption | decide | omega) (by first | assumption | decide | omega) ?_ _; (with_reducible repeat (first | refine blk_drewN ?_ _ | refine blk_drew ?_ | refine blk_alloc ?_ _)); exact BK111.out))⟩; have n2_ : Aside0 (Below w.heap.size w w26) := ⟨(by rw [hw]; exact (by repeat (first | (with_reducible first | exact HB.out | apply below_alloc | apply pw_below_drewN | apply below_drew1 | refine below_set ?_ GE110.out | refine below_set ?_ GE111.out) | exact HB.out)))⟩; clear hw; clear BK110; clear BK111; clear HB; have BK110 := n0_; have BK111 := n1_; have HB := n2_; clear n0_ n1_ n2_) | (go_at_call 41; (with_reducible refine (identity_at.calls x12_1 t112 _ A10.out).mono ?_); rintro e w' ⟨rfl, ⟨nd, rfl⟩⟩; (try first | exact ⟨rfl, _, World.drewN_drewN _ _ _⟩ | exact ⟨rfl, _, Eq.trans (World.drewN_drewN _ _ _) (congrArg (World.drewN _) (Nat.add_assoc _ _ _))⟩); have p12 : 0 ≤ (x12_1 : Int) := of_decide_eq_true (by first | (with_reducible assumption) | assumption); have q12 : x12_1 < (a0.size : Int) := of_decide_eq_true (by first | (with_reducible assumption) | assumption); have hx12 := bt_at a0 x12_1; replace p12 := eq_true p12; replace q12 := eq_true q12) | (go_at_call 34; (with_reducible refine (strings_IndexByte.calls (t112 ++ a1) (bt a0 x12_1) t113 _ A13.out).mono ?_); rintro e w' ⟨rfl, ⟨nd, rfl⟩⟩; (try first | exact ⟨rfl, _, World.drewN_drewN _ _ _⟩ | exact ⟨rfl, _, Eq.trans (World.drewN_drewN _ _ _) (congrArg (World.drewN _) (Nat.add_assoc _ _ _))⟩))); try go_wp2_with (first | ((with_reducible refine gate_store (t := 5) (p := 19) rfl ?_); (try (rw [drewN_self wr]; generalize hq_ : World.drewN wr _ = wr; have n0_ := Aside0.mk (blk_at hq_ BK110.out); have n1_ := Aside0.mk (blk_at hq_ BK111.out); have n2_ := Aside0.mk (below_at hq_ HB.out); clear hq_ BK110 BK111 HB; have BK110 := n0_; have BK111 := n1_; have HB := n2_; clear n0_ n1_ n2_)); refine store_event (t := 5) (p := 19) (v := ?vo_w26) (w1 := (wr.setCell ⟨gb111, (x12_1 : Int).toNat, none⟩ (.int .u8 (bt a0 x12_1)))) ?hg ?ho ?hn ?hr ?_; (case ho => rfl); (case hg => rfl); (case hn => rfl); (case hr => first | (go_simp; done) | (go_simp; rfl)); intro w26 hw; have n0_ : Aside0 (w26.heap[gb110]? = some (.cells #[.int .u8 x111000_1, .int .u8 x111001_1, .int .u8 x111002_1, .int .u8 x111003_1, .int .u8 x111004_1, .int .u8 x111005_1, .int .u8 x111006_1, .int .u8 x111007_1, .int .u8 x111008_1] 43 (0, 0))) := ⟨(by rw [hw]; exact (by (with_reducible repeat (first | refine blk_drewN ?_ _ | refine blk_drew ?_ | refine blk_alloc ?_ _)); refine blk_far ?_ NB110_111.out _; (with_reducible repeat (first | refine blk_drewN ?_ _ | refine blk_drew ?_ | refine blk_alloc ?_ _)); exact BK110.out))⟩; have n1_ : Aside0 (w26.heap[gb111]? = some (.cells #[.int .u8 (sx 0 x12_1 (bt a0 x12_1) x112000_1), .int .u8 (sx 1 x12_1 (bt a0 x12_1) x112001_1), .int .u8 (sx 2 x12_1 (bt a0 x12_1) x112002_1), .int .u8 (sx 3 x12_1 (bt a0 x12_1) x112003_1), .int .u8 (sx 4 x12_1 (bt a0 x12_1) x112004_1), .int .u8 (sx 5 x12_1 (bt a0 x12_1) x112005_1), .int .u8 (sx 6 x12_1 (bt a0 x12_1) x112006_1), .int .u8 (sx 7 x12_1 (bt a0 x12_1) x112007_1), .int .u8 (sx 8 x12_1 (bt a0 x12_1) x112008_1)] 43 (0, 0))) := ⟨(by rw [hw]; exact (by (with_reducible repeat (first | refine blk_drewN ?_ _ | refine blk_drew ?_ | refine blk_alloc ?_ _)); refine blk_setv9 (by first | assumption | decide | omega) (by first | assumption | decide | omega) ?_ _; (with_reducible repeat (first | refine blk_drewN ?_ _ | refine blk_drew ?_ | refine blk_alloc ?_ _)); exact BK111.out))⟩; have n2_ : Aside0 (Below w.heap.size w w26) := ⟨(by rw [hw]; exact (by repeat (first | (with_reducible first | exact HB.out | apply below_alloc | apply pw_below_drewN | apply below_drew1 | refine below_set ?_ GE110.out | refine below_set ?_ GE111.out) | exact HB.out)))⟩; clear hw; clear BK110; clear BK111; clear HB; have BK110 := n0_; have BK111 := n1_; have HB := n2_; clear n0_ n1_ n2_) | (go_at_call 41; (with_reducible refine (identity_at.calls x12_1 t112 _ A10.out).mono ?_); rintro e w' ⟨rfl, ⟨nd, rfl⟩⟩; (try first | exact ⟨rfl, _, World.drewN_drewN _ _ _⟩ | exact ⟨rfl, _, Eq.trans (World.drewN_drewN _ _ _) (congrArg (World.drewN _) (Nat.add_assoc _ _ _))⟩); have p12 : 0 ≤ (x12_1 : Int) := of_decide_eq_true (by first | (with_reducible assumption) | assumption); have q12 : x12_1 < (a0.size : Int) := of_decide_eq_true (by first | (with_reducible assumption) | assumption); have hx12 := bt_at a0 x12_1; replace p12 := eq_true p12; replace q12 := eq_true q12) | (go_at_call 34; (with_reducible refine (strings_IndexByte.calls (t112 ++ a1) (bt a0 x12_1) t113 _ A13.out).mono ?_); rintro e w' ⟨rfl, ⟨nd, rfl⟩⟩; (try first | exact ⟨rfl, _, World.drewN_drewN _ _ _⟩ | exact ⟨rfl, _, Eq.trans (World.drewN_drewN _ _ _) (congrArg (World.drewN _) (Nat.add_assoc _ _ _))⟩))))
                  go_roundg k1
                  case measure => have := HK1.out; omega
                  case rel => exact ⟨(wrap64 (x12_1 + 1)), (x111000_1), (x111001_1), (x111002_1), (x111003_1), (x111004_1), (x111005_1), (x111006_1), (x111007_1), (x111008_1), (sx 0 x12_1 (bt a0 x12_1) x112000_1), (sx 1 x12_1 (bt a0 x12_1) x112001_1), (sx 2 x12_1 (bt a0 x12_1) x112002_1), (sx 3 x12_1 (bt a0 x12_1) x112003_1), (sx 4 x12_1 (bt a0 x12_1) x112004_1), (sx 5 x12_1 (bt a0 x12_1) x112005_1), (sx 6 x12_1 (bt a0 x12_1) x112006_1), (sx 7 x12_1 (bt a0 x12_1) x112007_1), (sx 8 x12_1 (bt a0 x12_1) x112008_1), (by first | rfl | (simp; done) | (simp [*]; done)), H', ⟨by have := HK1.out; omega⟩, ⟨by (with_reducible repeat (first | refine blk_drewN ?_ _ | refine blk_drew ?_ | refine blk_alloc ?_ _)); exact BK110.out⟩, ⟨by (with_reducible repeat (first | refine blk_drewN ?_ _ | refine blk_drew ?_ | refine blk_alloc ?_ _)); exact BK111.out⟩, ⟨by repeat (first | (with_reducible first | exact HB.out | apply below_alloc | apply pw_below_drewN | apply below_drew1 | refine below_set ?_ GE110.out | refine below_set ?_ GE111.out) | exact HB.out)⟩⟩
              · rw [if_neg c11] at H
                exact absurd H (by simp)
            · rw [if_neg c8] at H
              exact absurd H (by simp)
          · rw [if_neg c7] at H
            exact absurd H (by simp)
        · rw [if_neg c6] at H
          have c6b0 : decide (x12_1 < 9) = false := decide_eq_false c6
          clear c6
          simp only [Option.some.injEq, Prod.mk.injEq] at H
          obtain ⟨rfl, rfl, rfl, rfl, rfl, rfl, rfl, rfl, rfl, rfl⟩ := H
          have hnb27 := NB111_110.out
          have hnc27 := NB110_111.out
          have hcz28_0 : wr.cell? ⟨gb111, 0, none⟩ = some (.int .u8 x112000_1) := (blk_cell BK111.out 0).trans rfl
          have hcz28_1 : wr.cell? ⟨gb111, 1, none⟩ = some (.int .u8 x112001_1) := (blk_cell BK111.out 1).trans rfl
          have hcz28_2 : wr.cell? ⟨gb111, 2, none⟩ = some (.int .u8 x112002_1) := (blk_cell BK111.out 2).trans rfl
          have hcz28_3 : wr.cell? ⟨gb111, 3, none⟩ = some (.int .u8 x112003_1) := (blk_cell BK111.out 3).trans rfl
          have hcz28_4 : wr.cell? ⟨gb111, 4, none⟩ = some (.int .u8 x112004_1) := (blk_cell BK111.out 4).trans rfl
          have hcz28_5 : wr.cell? ⟨gb111, 5, none⟩ = some (.int .u8 x112005_1) := (blk_cell BK111.out 5).trans rfl
          have hcz28_6 : wr.cell? ⟨gb111, 6, none⟩ = some (.int .u8 x112006_1) := (blk_cell BK111.out 6).trans rfl
          have hcz28_7 : wr.cell? ⟨gb111, 7, none⟩ = some (.int .u8 x112007_1) := (blk_cell BK111.out 7).trans rfl
          have hcz28_8 : wr.cell? ⟨gb111, 8, none⟩ = some (.int .u8 x112008_1) := (blk_cell BK111.out 8).trans rfl
          have hfz28_0 := blk_frozen BK111.out 0
          have hfz28_1 := blk_frozen BK111.out 1
          have hfz28_2 := blk_frozen BK111.out 2
          have hfz28_3 := blk_frozen BK111.out 3
          have hfz28_4 := blk_frozen BK111.out 4
          have hfz28_5 := blk_frozen BK111.out 5
          have hfz28_6 := blk_frozen BK111.out 6
          have hfz28_7 := blk_frozen BK111.out 7
          have hfz28_8 := blk_frozen BK111.out 8
          have hcz29_0 : wr.cell? ⟨gb110, 0, none⟩ = some (.int .u8 x111000_1) := (blk_cell BK110.out 0).trans rfl
          have hcz29_1 : wr.cell? ⟨gb110, 1, none⟩ = some (.int .u8 x111001_1) := (blk_cell BK110.out 1).trans rfl
          have hcz29_2 : wr.cell? ⟨gb110, 2, none⟩ = some (.int .u8 x111002_1) := (blk_cell BK110.out 2).trans rfl
          have hcz29_3 : wr.cell? ⟨gb110, 3, none⟩ = some (.int .u8 x111003_1) := (blk_cell BK110.out 3).trans rfl
          have hcz29_4 : wr.cell? ⟨gb110, 4, none⟩ = some (.int .u8 x111004_1) := (blk_cell BK110.out 4).trans rfl
          have hcz29_5 : wr.cell? ⟨gb110, 5, none⟩ = some (.int .u8 x111005_1) := (blk_cell BK110.out 5).trans rfl
          have hcz29_6 : wr.cell? ⟨gb110, 6, none⟩ = some (.int .u8 x111006_1) := (blk_cell BK110.out 6).trans rfl
          have hcz29_7 : wr.cell? ⟨gb110, 7, none⟩ = some (.int .u8 x111007_1) := (blk_cell BK110.out 7).trans rfl
          have hcz29_8 : wr.cell? ⟨gb110, 8, none⟩ = some (.int .u8 x111008_1) := (blk_cell BK110.out 8).trans rfl
          have hfz29_0 := blk_frozen BK110.out 0
          have hfz29_1 := blk_frozen BK110.out 1
          have hfz29_2 := blk_frozen BK110.out 2
          have hfz29_3 := blk_frozen BK110.out 3
          have hfz29_4 := blk_frozen BK110.out 4
          have hfz29_5 := blk_frozen BK110.out 5
          have hfz29_6 := blk_frozen BK110.out 6
          have hfz29_7 := blk_frozen BK110.out 7
          have hfz29_8 := blk_frozen BK110.out 8
          go_wp2
          repeat (go_quiet (fail); try go_wp2)
          refine bodyPost_ret (results_ct rfl _ _ gb110 43 #[.int .u8 x112000_1, .int .u8 x112001_1, .int .u8 x112002_1, .int .u8 x112003_1, .int .u8 x112004_1, .int .u8 x112005_1, .int .u8 x112006_1, .int .u8 x112007_1, .int .u8 x112008_1] (0, 0) _ rfl (by (with_reducible repeat (first | refine blk_drewN ?_ _ | refine blk_drew ?_ | refine blk_alloc ?_ _)); refine blk_put (cs := #[.int .u8 x112000_1, .int .u8 x112001_1, .int .u8 x112002_1, .int .u8 x112003_1, .int .u8 x112004_1, .int .u8 x112005_1, .int .u8 x112006_1, .int .u8 x112007_1, .int .u8 x111008_1]) ?_ 8 _ rfl; (with_reducible repeat (first | refine blk_drewN ?_ _ | refine blk_drew ?_ | refine blk_alloc ?_ _)); refine blk_put (cs := #[.int .u8 x112000_1, .int .u8 x112001_1, .int .u8 x112002_1, .int .u8 x112003_1, .int .u8 x112004_1, .int .u8 x112005_1, .int .u8 x112006_1, .int .u8 x111007_1, .int .u8 x111008_1]) ?_ 7 _ rfl; (with_reducible repeat (first | refine blk_drewN ?_ _ | refine blk_drew ?_ | refine blk_alloc ?_ _)); refine blk_put (cs := #[.int .u8 x112000_1, .int .u8 x112001_1, .int .u8 x112002_1, .int .u8 x112003_1, .int .u8 x112004_1, .int .u8 x112005_1, .int .u8 x111006_1, .int .u8 x111007_1, .int .u8 x111008_1]) ?_ 6 _ rfl; (with_reducible repeat (first | refine blk_drewN ?_ _ | refine blk_drew ?_ | refine blk_alloc ?_ _)); refine blk_put (cs := #[.int .u8 x112000_1, .int .u8 x112001_1, .int .u8 x112002_1, .int .u8 x112003_1, .int .u8 x112004_1, .int .u8 x111005_1, .int .u8 x111006_1, .int .u8 x111007_1, .int .u8 x111008_1]) ?_ 5 _ rfl; (with_reducible repeat (first | refine blk_drewN ?_ _ | refine blk_drew ?_ | refine blk_alloc ?_ _)); refine blk_put (cs := #[.int .u8 x112000_1, .int .u8 x112001_1, .int .u8 x112002_1, .int .u8 x112003_1, .int .u8 x111004_1, .int .u8 x111005_1, .int .u8 x111006_1, .int .u8 x111007_1, .int .u8 x111008_1]) ?_ 4 _ rfl; (with_reducible repeat (first | refine blk_drewN ?_ _ | refine blk_drew ?_ | refine blk_alloc ?_ _)); refine blk_put (cs := #[.int .u8 x112000_1, .int .u8 x112001_1, .int .u8 x112002_1, .int .u8 x111003_1, .int .u8 x111004_1, .int .u8 x111005_1, .int .u8 x111006_1, .int .u8 x111007_1, .int .u8 x111008_1]) ?_ 3 _ rfl; (with_reducible repeat (first | refine blk_drewN ?_ _ | refine blk_drew ?_ | refine blk_alloc ?_ _)); refine blk_put (cs := #[.int .u8 x112000_1, .int .u8 x112001_1, .int .u8 x111002_1, .int .u8 x111003_1, .int .u8 x111004_1, .int .u8 x111005_1, .int .u8 x111006_1, .int .u8 x111007_1, .int .u8 x111008_1]) ?_ 2 _ rfl; (with_reducible repeat (first | refine blk_drewN ?_ _ | refine blk_drew ?_ | refine blk_alloc ?_ _)); refine blk_put (cs := #[.int .u8 x112000_1, .int .u8 x111001_1, .int .u8 x111002_1, .int .u8 x111003_1, .int .u8 x111004_1, .int .u8 x111005_1, .int .u8 x111006_1, .int .u8 x111007_1, .int .u8 x111008_1]) ?_ 1 _ rfl; (with_reducible repeat (first | refine blk_drewN ?_ _ | refine blk_drew ?_ | refine blk_alloc ?_ _)); refine blk_put (cs := #[.int .u8 x111000_1, .int .u8 x111001_1, .int .u8 x111002_1, .int .u8 x111003_1, .int .u8 x111004_1, .int .u8 x111005_1, .int .u8 x111006_1, .int .u8 x111007_1, .int .u8 x111008_1]) ?_ 0 _ rfl; (with_reducible repeat (first | refine blk_drewN ?_ _ | refine blk_drew ?_ | refine blk_alloc ?_ _)); exact BK110.out) Try.underlying43 rfl (by kernel_rfl)) rfl ?_
          exact ⟨by first | rfl | (simp [errW_none, errW_some] <;> rfl) | (simp [*, errW_none, errW_some] <;> rfl), by repeat (first | (with_reducible first | exact HB.out | apply below_alloc | apply pw_below_drewN | apply below_drew1 | refine below_set ?_ GE110.out | refine below_set ?_ GE111.out) | exact HB.out)⟩
  · rw [if_neg c3] at H
    have c3b0 : ((a0.size : Int) == 9) = false := beq_eq_false_iff_ne.mpr c3
    have c3b1 : ((a0.size : Int) != 9) = true := bne_iff_ne.mpr c3
    simp only [Option.some.injEq, Prod.mk.injEq] at H
    obtain ⟨rfl, rfl, rfl, rfl, rfl, rfl, rfl, rfl, rfl, rfl⟩ := H
    go_enter Try.func30, Try.ntmps30
    go_wp2_with (first | ((with_reducible refine gate_dst (N := 4) rfl ?_); refine box_event ?hg (N := 4) ?hd (cs := #[.int .u8 0, .int .u8 0, .int .u8 0, .int .u8 0, .int .u8 0, .int .u8 0, .int .u8 0, .int .u8 0, .int .u8 0]) (t := 43) ?hr ?_; (case hd => rfl); (case hg => rfl); (case hr => first | (go_simp; done) | (go_simp; rfl)); intro gb110 hg w30 hbox hb; have n0_ := Aside0.mk (below_step (by repeat (first | (with_reducible first | exact HB.out | apply below_alloc | apply pw_below_drewN | apply below_drew1) | exact HB.out)) hb); have n1_ := Aside0.mk (hbox); have n2_ := Aside0.mk ((by rw [hg]; exact (below_size (by repeat (first | (with_reducible first | exact HB.out | apply below_alloc | apply pw_below_drewN | apply below_drew1) | exact HB.out))) : w.heap.size ≤ gb110)); have n3_ := Aside0.mk ((by rw [hg]; exact (below_size (by repeat (first | (with_reducible first | exact HB.out | apply below_alloc | apply pw_below_drewN | apply below_drew1) | exact HB.out))) : w.heap.size ≤ gb110)); clear HB; have HB := n0_; have BK110 := n1_; have GW110 := n2_; have GE110 := n3_; clear n0_ n1_ n2_ n3_; clear hb hbox hg) | ((with_reducible refine gate_dst (N := 6) rfl ?_); refine box_event ?hg (N := 6) ?hd (cs := #[.int .u8 0, .int .u8 0, .int .u8 0, .int .u8 0, .int .u8 0, .int .u8 0, .int .u8 0, .int .u8 0, .int .u8 0]) (t := 43) ?hr ?_; (case hd => rfl); (case hg => rfl); (case hr => first | (go_simp; done) | (go_simp; rfl)); intro gb111 hg w31 hbox hb; have n0_ := Aside0.mk (blk_below (g := gb110) (o := .cells #[.int .u8 0, .int .u8 0, .int .u8 0, .int .u8 0, .int .u8 0, .int .u8 0, .int .u8 0, .int .u8 0, .int .u8 0] 43 (0, 0)) (by (with_reducible repeat (first | refine blk_drewN ?_ _ | refine blk_drew ?_ | refine blk_alloc ?_ _)); exact BK110.out) hb); have n1_ := Aside0.mk (below_step (by repeat (first | (with_reducible first | exact HB.out | apply below_alloc | apply pw_below_drewN | apply below_drew1 | refine below_set ?_ GE110.out) | exact HB.out)) hb); have n2_ := Aside0.mk (hbox); have n3_ := Aside0.mk ((by rw [hg]; exact (below_size (by repeat (first | (with_reducible first | exact HB.out | apply below_alloc | apply pw_below_drewN | apply below_drew1 | refine below_set ?_ GE110.out) | exact HB.out))) : w.heap.size ≤ gb111)); have n4_ := Aside0.mk ((by rw [hg]; exact (below_size (by repeat (first | (with_reducible first | exact HB.out | apply below_alloc | apply pw_below_drewN | apply below_drew1 | refine below_set ?_ GE110.out) | exact HB.out))) : w.heap.size ≤ gb111)); have n5_ := Aside0.mk ((by rw [hg]; exact Nat.ne_of_lt (blk_lt (g := gb110) (o := .cells #[.int .u8 0, .int .u8 0, .int .u8 0, .int .u8 0, .int .u8 0, .int .u8 0, .int .u8 0, .int .u8 0, .int .u8 0] 43 (0, 0)) (by (with_reducible repeat (first | refine blk_drewN ?_ _ | refine blk_drew ?_ | refine blk_alloc ?_ _)); exact BK110.out)) : gb110 ≠ gb111)); have n6_ := Aside0.mk ((by rw [hg]; exact Nat.ne_of_gt (blk_lt (g := gb110) (o := .cells #[.int .u8 0, .int .u8 0, .int .u8 0, .int .u8 0, .int .u8 0, .int .u8 0, .int .u8 0, .int .u8 0, .int .u8 0] 43 (0, 0)) (by (with_reducible repeat (first | refine blk_drewN ?_ _ | refine blk_drew ?_ | refine blk_alloc ?_ _)); exact BK110.out)) : gb111 ≠ gb110)); clear BK110; clear HB; have BK110 := n0_; have HB := n1_; have BK111 := n2_; have GW111 := n3_; have GE111 := n4_; have NB110_111 := n5_; have NB111_110 := n6_; clear n0_ n1_ n2_ n3_ n4_ n5_ n6_; clear hb hbox hg; have hnb32 := NB111_110.out; have hnc32 := NB110_111.out; have hcz33_0 : w31.cell? ⟨gb111, 0, none⟩ = some (.int .u8 0) := (blk_cell BK111.out 0).trans rfl; have hcz33_1 : w31.cell? ⟨gb111, 1, none⟩ = some (.int .u8 0) := (blk_cell BK111.out 1).trans rfl; have hcz33_2 : w31.cell? ⟨gb111, 2, none⟩ = some (.int .u8 0) := (blk_cell BK111.out 2).trans rfl; have hcz33_3 : w31.cell? ⟨gb111, 3, none⟩ = some (.int .u8 0) := (blk_cell BK111.out 3).trans rfl; have hcz33_4 : w31.cell? ⟨gb111, 4, none⟩ = some (.int .u8 0) := (blk_cell BK111.out 4).trans rfl; have hcz33_5 : w31.cell? ⟨gb111, 5, none⟩ = some (.int .u8 0) := (blk_cell BK111.out 5).trans rfl; have hcz33_6 : w31.cell? ⟨gb111, 6, none⟩ = some (.int .u8 0) := (blk_cell BK111.out 6).trans rfl; have hcz33_7 : w31.cell? ⟨gb111, 7, none⟩ = some (.int .u8 0) := (blk_cell BK111.out 7).trans rfl; have hcz33_8 : w31.cell? ⟨gb111, 8, none⟩ = some (.int .u8 0) := (blk_cell BK111.out 8).trans rfl; have hfz33_0 := blk_frozen BK111.out 0; have hfz33_1 := blk_frozen BK111.out 1; have hfz33_2 := blk_frozen BK111.out 2; have hfz33_3 := blk_frozen BK111.out 3; have hfz33_4 := blk_frozen BK111.out 4; have hfz33_5 := blk_frozen BK111.out 5; have hfz33_6 := blk_frozen BK111.out 6; have hfz33_7 := blk_frozen BK111.out 7; have hfz33_8 := blk_frozen BK111.out 8; have hcz34_0 : w31.cell? ⟨gb110, 0, none⟩ = some (.int .u8 0) := (blk_cell BK110.out 0).trans rfl; have hcz34_1 : w31.cell? ⟨gb110, 1, none⟩ = some (.int .u8 0) := (blk_cell BK110.out 1).trans rfl; have hcz34_2 : w31.cell? ⟨gb110, 2, none⟩ = some (.int .u8 0) := (blk_cell BK110.out 2).trans rfl; have hcz34_3 : w31.cell? ⟨gb110, 3, none⟩ = some (.int .u8 0) := (blk_cell BK110.out 3).trans rfl; have hcz34_4 : w31.cell? ⟨gb110, 4, none⟩ = some (.int .u8 0) := (blk_cell BK110.out 4).trans rfl; have hcz34_5 : w31.cell? ⟨gb110, 5, none⟩ = some (.int .u8 0) := (blk_cell BK110.out 5).trans rfl; have hcz34_6 : w31.cell? ⟨gb110, 6, none⟩ = some (.int .u8 0) := (blk_cell BK110.out 6).trans rfl; have hcz34_7 : w31.cell? ⟨gb110, 7, none⟩ = some (.int .u8 0) := (blk_cell BK110.out 7).trans rfl; have hcz34_8 : w31.cell? ⟨gb110, 8, none⟩ = some (.int .u8 0) := (blk_cell BK110.out 8).trans rfl; have hfz34_0 := blk_frozen BK110.out 0; have hfz34_1 := blk_frozen BK110.out 1; have hfz34_2 := blk_frozen BK110.out 2; have hfz34_3 := blk_frozen BK110.out 3; have hfz34_4 := blk_frozen BK110.out 4; have hfz34_5 := blk_frozen BK110.out 5; have hfz34_6 := blk_frozen BK110.out 6; have hfz34_7 := blk_frozen BK110.out 7; have hfz34_8 := blk_frozen BK110.out 8))
    repeat (go_quiet (first | ((with_reducible refine gate_dst (N := 4) rfl ?_); refine box_event ?hg (N := 4) ?hd (cs := #[.int .u8 0, .int .u8 0, .int .u8 0, .int .u8 0, .int .u8 0, .int .u8 0, .int .u8 0, .int .u8 0, .int .u8 0]) (t := 43) ?hr ?_; (case hd => rfl); (case hg => rfl); (case hr => first | (go_simp; done) | (go_simp; rfl)); intro gb110 hg w30 hbox hb; have n0_ := Aside0.mk (below_step (by repeat (first | (with_reducible first | exact HB.out | apply below_alloc | apply pw_below_drewN | apply below_drew1) | exact HB.out)) hb); have n1_ := Aside0.mk (hbox); have n2_ := Aside0.mk ((by rw [hg]; exact (below_size (by repeat (first | (with_reducible first | exact HB.out | apply below_alloc | apply pw_below_drewN | apply below_drew1) | exact HB.out))) : w.heap.size ≤ gb110)); have n3_ := Aside0.mk ((by rw [hg]; exact (below_size (by repeat (first | (with_reducible first | exact HB.out | apply below_alloc | apply pw_below_drewN | apply below_drew1) | exact HB.out))) : w.heap.size ≤ gb110)); clear HB; have HB := n0_; have BK110 := n1_; have GW110 := n2_; have GE110 := n3_; clear n0_ n1_ n2_ n3_; clear hb hbox hg) | ((with_reducible refine gate_dst (N := 6) rfl ?_); refine box_event ?hg (N := 6) ?hd (cs := #[.int .u8 0, .int .u8 0, .int .u8 0, .int .u8 0, .int .u8 0, .int .u8 0, .int .u8 0, .int .u8 0, .int .u8 0]) (t := 43) ?hr ?_; (case hd => rfl); (case hg => rfl); (case hr => first | (go_simp; done) | (go_simp; rfl)); intro gb111 hg w31 hbox hb; have n0_ := Aside0.mk (blk_below (g := gb110) (o := .cells #[.int .u8 0, .int .u8 0, .int .u8 0, .int .u8 0, .int .u8 0, .int .u8 0, .int .u8 0, .int .u8 0, .int .u8 0] 43 (0, 0)) (by (with_reducible repeat (first | refine blk_drewN ?_ _ | refine blk_drew ?_ | refine blk_alloc ?_ _)); exact BK110.out) hb); have n1_ := Aside0.mk (below_step (by repeat (first | (with_reducible first | exact HB.out | apply below_alloc | apply pw_below_drewN | apply below_drew1 | refine below_set ?_ GE110.out) | exact HB.out)) hb); have n2_ := Aside0.mk (hbox); have n3_ := Aside0.mk ((by rw [hg]; exact (below_size (by repeat (first | (with_reducible first | exact HB.out | apply below_alloc | apply pw_below_drewN | apply below_drew1 | refine below_set ?_ GE110.out) | exact HB.out))) : w.heap.size ≤ gb111)); have n4_ := Aside0.mk ((by rw [hg]; exact (below_size (by repeat (first | (with_reducible first | exact HB.out | apply below_alloc | apply pw_below_drewN | apply below_drew1 | refine below_set ?_ GE110.out) | exact HB.out))) : w.heap.size ≤ gb111)); have n5_ := Aside0.mk ((by rw [hg]; exact Nat.ne_of_lt (blk_lt (g := gb110) (o := .cells #[.int .u8 0, .int .u8 0, .int .u8 0, .int .u8 0, .int .u8 0, .int .u8 0, .int .u8 0, .int .u8 0, .int .u8 0] 43 (0, 0)) (by (with_reducible repeat (first | refine blk_drewN ?_ _ | refine blk_drew ?_ | refine blk_alloc ?_ _)); exact BK110.out)) : gb110 ≠ gb111)); have n6_ := Aside0.mk ((by rw [hg]; exact Nat.ne_of_gt (blk_lt (g := gb110) (o := .cells #[.int .u8 0, .int .u8 0, .int .u8 0, .int .u8 0, .int .u8 0, .int .u8 0, .int .u8 0, .int .u8 0, .int .u8 0] 43 (0, 0)) (by (with_reducible repeat (first | refine blk_drewN ?_ _ | refine blk_drew ?_ | refine blk_alloc ?_ _)); exact BK110.out)) : gb111 ≠ gb110)); clear BK110; clear HB; have BK110 := n0_; have HB := n1_; have BK111 := n2_; have GW111 := n3_; have GE111 := n4_; have NB110_111 := n5_; have NB111_110 := n6_; clear n0_ n1_ n2_ n3_ n4_ n5_ n6_; clear hb hbox hg; have hnb32 := NB111_110.out; have hnc32 := NB110_111.out; have hcz33_0 : w31.cell? ⟨gb111, 0, none⟩ = some (.int .u8 0) := (blk_cell BK111.out 0).trans rfl; have hcz33_1 : w31.cell? ⟨gb111, 1, none⟩ = some (.int .u8 0) := (blk_cell BK111.out 1).trans rfl; have hcz33_2 : w31.cell? ⟨gb111, 2, none⟩ = some (.int .u8 0) := (blk_cell BK111.out 2).trans rfl; have hcz33_3 : w31.cell? ⟨gb111, 3, none⟩ = some (.int .u8 0) := (blk_cell BK111.out 3).trans rfl; have hcz33_4 : w31.cell? ⟨gb111, 4, none⟩ = some (.int .u8 0) := (blk_cell BK111.out 4).trans rfl; have hcz33_5 : w31.cell? ⟨gb111, 5, none⟩ = some (.int .u8 0) := (blk_cell BK111.out 5).trans rfl; have hcz33_6 : w31.cell? ⟨gb111, 6, none⟩ = some (.int .u8 0) := (blk_cell BK111.out 6).trans rfl; have hcz33_7 : w31.cell? ⟨gb111, 7, none⟩ = some (.int .u8 0) := (blk_cell BK111.out 7).trans rfl; have hcz33_8 : w31.cell? ⟨gb111, 8, none⟩ = some (.int .u8 0) := (blk_cell BK111.out 8).trans rfl; have hfz33_0 := blk_frozen BK111.out 0; have hfz33_1 := blk_frozen BK111.out 1; have hfz33_2 := blk_frozen BK111.out 2; have hfz33_3 := blk_frozen BK111.out 3; have hfz33_4 := blk_frozen BK111.out 4; have hfz33_5 := blk_frozen BK111.out 5; have hfz33_6 := blk_frozen BK111.out 6; have hfz33_7 := blk_frozen BK111.out 7; have hfz33_8 := blk_frozen BK111.out 8; have hcz34_0 : w31.cell? ⟨gb110, 0, none⟩ = some (.int .u8 0) := (blk_cell BK110.out 0).trans rfl; have hcz34_1 : w31.cell? ⟨gb110, 1, none⟩ = some (.int .u8 0) := (blk_cell BK110.out 1).trans rfl; have hcz34_2 : w31.cell? ⟨gb110, 2, none⟩ = some (.int .u8 0) := (blk_cell BK110.out 2).trans rfl; have hcz34_3 : w31.cell? ⟨gb110, 3, none⟩ = some (.int .u8 0) := (blk_cell BK110.out 3).trans rfl; have hcz34_4 : w31.cell? ⟨gb110, 4, none⟩ = some (.int .u8 0) := (blk_cell BK110.out 4).trans rfl; have hcz34_5 : w31.cell? ⟨gb110, 5, none⟩ = some (.int .u8 0) := (blk_cell BK110.out 5).trans rfl; have hcz34_6 : w31.cell? ⟨gb110, 6, none⟩ = some (.int .u8 0) := (blk_cell BK110.out 6).trans rfl; have hcz34_7 : w31.cell? ⟨gb110, 7, none⟩ = some (.int .u8 0) := (blk_cell BK110.out 7).trans rfl; have hcz34_8 : w31.cell? ⟨gb110, 8, none⟩ = some (.int .u8 0) := (blk_cell BK110.out 8).trans rfl; have hfz34_0 := blk_frozen BK110.out 0; have hfz34_1 := blk_frozen BK110.out 1; have hfz34_2 := blk_frozen BK110.out 2; have hfz34_3 := blk_frozen BK110.out 3; have hfz34_4 := blk_frozen BK110.out 4; have hfz34_5 := blk_frozen BK110.out 5; have hfz34_6 := blk_frozen BK110.out 6; have hfz34_7 := blk_frozen BK110.out 7; have hfz34_8 := blk_frozen BK110.out 8)); try go_wp2_with (first | ((with_reducible refine gate_dst (N := 4) rfl ?_); refine box_event ?hg (N := 4) ?hd (cs := #[.int .u8 0, .int .u8 0, .int .u8 0, .int .u8 0, .int .u8 0, .int .u8 0, .int .u8 0, .int .u8 0, .int .u8 0]) (t := 43) ?hr ?_; (case hd => rfl); (case hg => rfl); (case hr => first | (go_simp; done) | (go_simp; rfl)); intro gb110 hg w30 hbox hb; have n0_ := Aside0.mk (below_step (by repeat (first | (with_reducible first | exact HB.out | apply below_alloc | apply pw_below_drewN | apply below_drew1) | exact HB.out)) hb); have n1_ := Aside0.mk (hbox); have n2_ := Aside0.mk ((by rw [hg]; exact (below_size (by repeat (first | (with_reducible first | exact HB.out | apply below_alloc | apply pw_below_drewN | apply below_drew1) | exact HB.out))) : w.heap.size ≤ gb110)); have n3_ := Aside0.mk ((by rw [hg]; exact (below_size (by repeat (first | (with_reducible first | exact HB.out | apply below_alloc | apply pw_below_drewN | apply below_drew1) | exact HB.out))) : w.heap.size ≤ gb110)); clear HB; have HB := n0_; have BK110 := n1_; have GW110 := n2_; have GE110 := n3_; clear n0_ n1_ n2_ n3_; clear hb hbox hg) | ((with_reducible refine gate_dst (N := 6) rfl ?_); refine box_event ?hg (N := 6) ?hd (cs := #[.int .u8 0, .int .u8 0, .int .u8 0, .int .u8 0, .int .u8 0, .int .u8 0, .int .u8 0, .int .u8 0, .int .u8 0]) (t := 43) ?hr ?_; (case hd => rfl); (case hg => rfl); (case hr => first | (go_simp; done) | (go_simp; rfl)); intro gb111 hg w31 hbox hb; have n0_ := Aside0.mk (blk_below (g := gb110) (o := .cells #[.int .u8 0, .int .u8 0, .int .u8 0, .int .u8 0, .int .u8 0, .int .u8 0, .int .u8 0, .int .u8 0, .int .u8 0] 43 (0, 0)) (by (with_reducible repeat (first | refine blk_drewN ?_ _ | refine blk_drew ?_ | refine blk_alloc ?_ _)); exact BK110.out) hb); have n1_ := Aside0.mk (below_step (by repeat (first | (with_reducible first | exact HB.out | apply below_alloc | apply pw_below_drewN | apply below_drew1 | refine below_set ?_ GE110.out) | exact HB.out)) hb); have n2_ := Aside0.mk (hbox); have n3_ := Aside0.mk ((by rw [hg]; exact (below_size (by repeat (first | (with_reducible first | exact HB.out | apply below_alloc | apply pw_below_drewN | apply below_drew1 | refine below_set ?_ GE110.out) | exact HB.out))) : w.heap.size ≤ gb111)); have n4_ := Aside0.mk ((by rw [hg]; exact (below_size (by repeat (first | (with_reducible first | exact HB.out | apply below_alloc | apply pw_below_drewN | apply below_drew1 | refine below_set ?_ GE110.out) | exact HB.out))) : w.heap.size ≤ gb111)); have n5_ := Aside0.mk ((by rw [hg]; exact Nat.ne_of_lt (blk_lt (g := gb110) (o := .cells #[.int .u8 0, .int .u8 0, .int .u8 0, .int .u8 0, .int .u8 0, .int .u8 0, .int .u8 0, .int .u8 0, .int .u8 0] 43 (0, 0)) (by (with_reducible repeat (first | refine blk_drewN ?_ _ | refine blk_drew ?_ | refine blk_alloc ?_ _)); exact BK110.out)) : gb110 ≠ gb111)); have n6_ := Aside0.mk ((by rw [hg]; exact Nat.ne_of_gt (blk_lt (g := gb110) (o := .cells #[.int .u8 0, .int .u8 0, .int .u8 0, .int .u8 0, .int .u8 0, .int .u8 0, .int .u8 0, .int .u8 0, .int .u8 0] 43 (0, 0)) (by (with_reducible repeat (first | refine blk_drewN ?_ _ | refine blk_drew ?_ | refine blk_alloc ?_ _)); exact BK110.out)) : gb111 ≠ gb110)); clear BK110; clear HB; have BK110 := n0_; have HB := n1_; have BK111 := n2_; have GW111 := n3_; have GE111 := n4_; have NB110_111 := n5_; have NB111_110 := n6_; clear n0_ n1_ n2_ n3_ n4_ n5_ n6_; clear hb hbox hg; have hnb32 := NB111_110.out; have hnc32 := NB110_111.out; have hcz33_0 : w31.cell? ⟨gb111, 0, none⟩ = some (.int .u8 0) := (blk_cell BK111.out 0).trans rfl; have hcz33_1 : w31.cell? ⟨gb111, 1, none⟩ = some (.int .u8 0) := (blk_cell BK111.out 1).trans rfl; have hcz33_2 : w31.cell? ⟨gb111, 2, none⟩ = some (.int .u8 0) := (blk_cell BK111.out 2).trans rfl; have hcz33_3 : w31.cell? ⟨gb111, 3, none⟩ = some (.int .u8 0) := (blk_cell BK111.out 3).trans rfl; have hcz33_4 : w31.cell? ⟨gb111, 4, none⟩ = some (.int .u8 0) := (blk_cell BK111.out 4).trans rfl; have hcz33_5 : w31.cell? ⟨gb111, 5, none⟩ = some (.int .u8 0) := (blk_cell BK111.out 5).trans rfl; have hcz33_6 : w31.cell? ⟨gb111, 6, none⟩ = some (.int .u8 0) := (blk_cell BK111.out 6).trans rfl; have hcz33_7 : w31.cell? ⟨gb111, 7, none⟩ = some (.int .u8 0) := (blk_cell BK111.out 7).trans rfl; have hcz33_8 : w31.cell? ⟨gb111, 8, none⟩ = some (.int .u8 0) := (blk_cell BK111.out 8).trans rfl; have hfz33_0 := blk_frozen BK111.out 0; have hfz33_1 := blk_frozen BK111.out 1; have hfz33_2 := blk_frozen BK111.out 2; have hfz33_3 := blk_frozen BK111.out 3; have hfz33_4 := blk_frozen BK111.out 4; have hfz33_5 := blk_frozen BK111.out 5; have hfz33_6 := blk_frozen BK111.out 6; have hfz33_7 := blk_frozen BK111.out 7; have hfz33_8 := blk_frozen BK111.out 8; have hcz34_0 : w31.cell? ⟨gb110, 0, none⟩ = some (.int .u8 0) := (blk_cell BK110.out 0).trans rfl; have hcz34_1 : w31.cell? ⟨gb110, 1, none⟩ = some (.int .u8 0) := (blk_cell BK110.out 1).trans rfl; have hcz34_2 : w31.cell? ⟨gb110, 2, none⟩ = some (.int .u8 0) := (blk_cell BK110.out 2).trans rfl; have hcz34_3 : w31.cell? ⟨gb110, 3, none⟩ = some (.int .u8 0) := (blk_cell BK110.out 3).trans rfl; have hcz34_4 : w31.cell? ⟨gb110, 4, none⟩ = some (.int .u8 0) := (blk_cell BK110.out 4).trans rfl; have hcz34_5 : w31.cell? ⟨gb110, 5, none⟩ = some (.int .u8 0) := (blk_cell BK110.out 5).trans rfl; have hcz34_6 : w31.cell? ⟨gb110, 6, none⟩ = some (.int .u8 0) := (blk_cell BK110.out 6).trans rfl; have hcz34_7 : w31.cell? ⟨gb110, 7, none⟩ = some (.int .u8 0) := (blk_cell BK110.out 7).trans rfl; have hcz34_8 : w31.cell? ⟨gb110, 8, none⟩ = some (.int .u8 0) := (blk_cell BK110.out 8).trans rfl; have hfz34_0 := blk_frozen BK110.out 0; have hfz34_1 := blk_frozen BK110.out 1; have hfz34_2 := blk_frozen BK110.out 2; have hfz34_3 := blk_frozen BK110.out 3; have hfz34_4 := blk_frozen BK110.out 4; have hfz34_5 := blk_frozen BK110.out 5; have hfz34_6 := blk_frozen BK110.out 6; have hfz34_7 := blk_frozen BK110.out 7; have hfz34_8 := blk_frozen BK110.out 8)))
    refine bodyPost_ret (results_ct rfl _ _ gb110 43 #[.int .u8 0, .int .u8 0, .int .u8 0, .int .u8 0, .int .u8 0, .int .u8 0, .int .u8 0, .int .u8 0, .int .u8 0] (0, 0) _ rfl (by (with_reducible repeat (first | refine blk_drewN ?_ _ | refine blk_drew ?_ | refine blk_alloc ?_ _)); refine blk_put (cs := #[.int .u8 0, .int .u8 0, .int .u8 0, .int .u8 0, .int .u8 0, .int .u8 0, .int .u8 0, .int .u8 0, .int .u8 0]) ?_ 8 _ rfl; (with_reducible repeat (first | refine blk_drewN ?_ _ | refine blk_drew ?_ | refine blk_alloc ?_ _)); refine blk_put (cs := #[.int .u8 0, .int .u8 0, .int .u8 0, .int .u8 0, .int .u8 0, .int .u8 0, .int .u8 0, .int .u8 0, .int .u8 0]) ?_ 7 _ rfl; (with_reducible repeat (first | refine blk_drewN ?_ _ | refine blk_drew ?_ | refine blk_alloc ?_ _)); refine blk_put (cs := #[.int .u8 0, .int .u8 0, .int .u8 0, .int .u8 0, .int .u8 0, .int .u8 0, .int .u8 0, .int .u8 0, .int .u8 0]) ?_ 6 _ rfl; (with_reducible repeat (first | refine blk_drewN ?_ _ | refine blk_drew ?_ | refine blk_alloc ?_ _)); refine blk_put (cs := #[.int .u8 0, .int .u8 0, .int .u8 0, .int .u8 0, .int .u8 0, .int .u8 0, .int .u8 0, .int .u8 0, .int .u8 0]) ?_ 5 _ rfl; (with_reducible repeat (first | refine blk_drewN ?_ _ | refine blk_drew ?_ | refine blk_alloc ?_ _)); refine blk_put (cs := #[.int .u8 0, .int .u8 0, .int .u8 0, .int .u8 0, .int .u8 0, .int .u8 0, .int .u8 0, .int .u8 0, .int .u8 0]) ?_ 4 _ rfl; (with_reducible repeat (first | refine blk_drewN ?_ _ | refine blk_drew ?_ | refine blk_alloc ?_ _)); refine blk_put (cs := #[.int .u8 0, .int .u8 0, .int .u8 0, .int .u8 0, .int .u8 0, .int .u8 0, .int .u8 0, .int .u8 0, .int .u8 0]) ?_ 3 _ rfl; (with_reducible repeat (first | refine blk_drewN ?_ _ | refine blk_drew ?_ | refine blk_alloc ?_ _)); refine blk_put (cs := #[.int .u8 0, .int .u8 0, .int .u8 0, .int .u8 0, .int .u8 0, .int .u8 0, .int .u8 0, .int .u8 0, .int .u8 0]) ?_ 2 _ rfl; (with_reducible repeat (first | refine blk_drewN ?_ _ | refine blk_drew ?_ | refine blk_alloc ?_ _)); refine blk_put (cs := #[.int .u8 0, .int .u8 0, .int .u8 0, .int .u8 0, .int .u8 0, .int .u8 0, .int .u8 0, .int .u8 0, .int .u8 0]) ?_ 1 _ rfl; (with_reducible repeat (first | refine blk_drewN ?_ _ | refine blk_drew ?_ | refine blk_alloc ?_ _)); refine blk_put (cs := #[.int .u8 0, .int .u8 0, .int .u8 0, .int .u8 0, .int .u8 0, .int .u8 0, .int .u8 0, .int .u8 0, .int .u8 0]) ?_ 0 _ rfl; (with_reducible repeat (first | refine blk_drewN ?_ _ | refine blk_drew ?_ | refine blk_alloc ?_ _)); exact BK110.out) Try.underlying43 rfl (by kernel_rfl)) rfl ?_
    exact ⟨by first | rfl | (simp [errW_none, errW_some] <;> rfl) | (simp [*, errW_none, errW_some] <;> rfl), by repeat (first | (with_reducible first | exact HB.out | apply below_alloc | apply pw_below_drewN | apply below_drew1 | refine below_set ?_ GE110.out | refine below_set ?_ GE111.out) | exact HB.out)⟩

/-! ### identity_number_right: function 31 -/
def identity_number_right.f (k : Nat) (a0_0 : Int) (a0_1 : Int) (a0_2 : Int) (a0_3 : Int) (a0_4 : Int) (a0_5 : Int) (a0_6 : Int) (a0_7 : Int) (a0_8 : Int) : Option (Bool) := (identity_number_check.f k a0_0 a0_1 a0_2 a0_3 a0_4 a0_5 a0_6 a0_7 a0_8).bind fun t115 => (some (a0_8 == t115))
theorem identity_number_right.mono : ∀ a0 a1 a2 a3 a4 a5 a6 a7 a8 k, LeO (identity_number_right.f k a0 a1 a2 a3 a4 a5 a6 a7 a8) (identity_number_right.f (k + 1) a0 a1 a2 a3 a4 a5 a6 a7 a8) := by
  intro a0 a1 a2 a3 a4 a5 a6 a7 a8 k
  unfold identity_number_right.f
  repeat' first
      | (with_reducible exact identity_number_check.mono _ _ _ _ _ _ _ _ _ _)
      | (with_reducible exact LeO.refl _)
      | (with_reducible exact LeO.none _)
      | (with_reducible refine LeO.ite ?_ ?_)
      | (with_reducible refine LeO.bind ?_ (fun _ => ?_))
      | exact identity_number_check.mono _ _ _ _ _ _ _ _ _ _
      | exact LeO.none _
      | refine LeO.ite ?_ ?_
      | refine LeO.bind ?_ (fun _ => ?_)
set_option maxHeartbeats 8000000 in
set_option maxRecDepth 100000 in
theorem identity_number_right.calls (k : Nat) (a0_0 : Int) (a0_1 : Int) (a0_2 : Int) (a0_3 : Int) (a0_4 : Int) (a0_5 : Int) (a0_6 : Int) (a0_7 : Int) (a0_8 : Int) (r : Bool) (w : World) (h : identity_number_right.f k a0_0 a0_1 a0_2 a0_3 a0_4 a0_5 a0_6 a0_7 a0_8 = some r) :
    Calls Try.prog 31 #[.agg #[.int .u8 a0_0, .int .u8 a0_1, .int .u8 a0_2, .int .u8 a0_3, .int .u8 a0_4, .int .u8 a0_5, .int .u8 a0_6, .int .u8 a0_7, .int .u8 a0_8]] w fun e w' => e = .returned (.bool r) ∧ Below w.heap.size w w' := by
  have hu43 := Try.underlying43
  have HB := Aside0.mk (Below.refl w.heap.size w)
  have H : ((identity_number_check.f k a0_0 a0_1 a0_2 a0_3 a0_4 a0_5 a0_6 a0_7 a0_8).bind fun t115 => (some (a0_8 == t115))) = some r := h
  clear h
  replace H := Option.bind_eq_some_iff.mp H
  obtain ⟨t115, A20, H⟩ := H
  replace H : (some (a0_8 == t115)) = some r := H
  have A2 := Aside0.mk A20
  clear A20
  obtain rfl := Option.some.inj H
  go_enter Try.func31, Try.ntmps31
  try go_wp2_with (first | ((with_reducible refine gate_dst (N := 1) rfl ?_); refine box_event ?hg (N := 1) ?hd (cs := #[.int .u8 a0_0, .int .u8 a0_1, .int .u8 a0_2, .int .u8 a0_3, .int .u8 a0_4, .int .u8 a0_5, .int .u8 a0_6, .int .u8 a0_7, .int .u8 a0_8]) (t := 43) ?hr ?_; (case hd => rfl); (case hg => rfl); (case hr => first | (go_simp; done) | (go_simp; rfl)); intro gb114 hg w3 hbox hb; have n0_ := Aside0.mk (below_step (by repeat (first | (with_reducible first | exact HB.out | apply below_alloc | apply pw_below_drewN | apply below_drew1) | exact HB.out)) hb); have n1_ := Aside0.mk (hbox); have n2_ := Aside0.mk ((by rw [hg]; exact (below_size (by repeat (first | (with_reducible first | exact HB.out | apply below_alloc | apply pw_below_drewN | apply below_drew1) | exact HB.out))) : w.heap.size ≤ gb114)); have n3_ := Aside0.mk ((by rw [hg]; exact (below_size (by repeat (first | (with_reducible first | exact HB.out | apply below_alloc | apply pw_below_drewN | apply below_drew1) | exact HB.out))) : w.heap.size ≤ gb114)); clear HB; have HB := n0_; have BK114 := n1_; have GW114 := n2_; have GE114 := n3_; clear n0_ n1_ n2_ n3_; clear hb hbox hg))
  have n0_ := Aside0.mk (blk_drew BK114.out)
  have n1_ := Aside0.mk (below_drew1 HB.out)
  clear BK114
  clear HB
  have BK114 := n0_
  have HB := n1_
  clear n0_ n1_
  refine start_ (n := 6) (S := fun w' => w'.cell? ⟨gb114, 0, none⟩ = some (.int .u8 a0_0) ∧ w'.cell? ⟨gb114, 1, none⟩ = some (.int .u8 a0_1) ∧ w'.cell? ⟨gb114, 2, none⟩ = some (.int .u8 a0_2) ∧ w'.cell? ⟨gb114, 3, none⟩ = some (.int .u8 a0_3) ∧ w'.cell? ⟨gb114, 4, none⟩ = some (.int .u8 a0_4) ∧ w'.cell? ⟨gb114, 5, none⟩ = some (.int .u8 a0_5) ∧ w'.cell? ⟨gb114, 6, none⟩ = some (.int .u8 a0_6) ∧ w'.cell? ⟨gb114, 7, none⟩ = some (.int .u8 a0_7) ∧ w'.cell? ⟨gb114, 8, none⟩ = some (.int .u8 a0_8)) (ds := []) #[false, false, false, false, false, false] (by kernel_rfl) rfl rfl ⟨(blk_cell BK114.out 0).trans rfl, (blk_cell BK114.out 1).trans rfl, (blk_cell BK114.out 2).trans rfl, (blk_cell BK114.out 3).trans rfl, (blk_cell BK114.out 4).trans rfl, (blk_cell BK114.out 5).trans rfl, (blk_cell BK114.out 6).trans rfl, (blk_cell BK114.out 7).trans rfl, (blk_cell BK114.out 8).trans rfl⟩ (fun hHeld => ?_)
  generalize w3.drew = w4 at BK114 HB hHeld ⊢
  refine pure_ (i := 0) (N := some 3) (v := ?_) (a' := ?_) #[true, false, false, false, false, false] rfl rfl (by kernel_rfl) (fun _ _ _ h => h) (Or.inl ⟨by rfl, ?_⟩) ?_ ?_
  rotate_left
  · intro w'
    go_simp
    with_reducible rfl
  rotate_left
  · simp only [Act.put, List.setIfInBounds_toArray, List.set_cons_zero, List.set_cons_succ, i64_w, i32_w]
    rfl
  refine take_ (i := 1) (N := some 4) (v := ?_) (a' := ?_) #[true, true, false, false, false, false] rfl rfl (by kernel_rfl) (fun _ _ _ h => h) (Or.inl ⟨by rfl, ?_⟩) hHeld ?_ ?_
  rotate_left
  · rintro w' ⟨s0, s1, s2, s3, s4, s5, s6, s7, s8⟩
    go_simp
    with_reducible rfl
  rotate_left
  · simp only [Act.put, List.setIfInBounds_toArray, List.set_cons_zero, List.set_cons_succ, i64_w, i32_w]
    rfl
  refine take_ (i := 2) (N := some 5) (v := ?_) (a' := ?_) #[true, true, true, false, false, false] rfl rfl (by kernel_rfl) (fun _ _ _ h => h) (Or.inl ⟨by rfl, ?_⟩) hHeld ?_ ?_
  rotate_left
  · rintro w' ⟨s0, s1, s2, s3, s4, s5, s6, s7, s8⟩
    go_simp
    with_reducible rfl
  rotate_left
  · simp only [Act.put, List.setIfInBounds_toArray, List.set_cons_zero, List.set_cons_succ, i64_w, i32_w]
    rfl
  refine one_ (i := 3) (N := some 6) #[true, true, true, true, false, false] rfl rfl (by kernel_rfl) (by decide) (fun K hK => ?_)
  refine goes_ Try.func28 (by kernel_rfl) rfl #[.agg #[.int .u8 a0_0, .int .u8 a0_1, .int .u8 a0_2, .int .u8 a0_3, .int .u8 a0_4, .int .u8 a0_5, .int .u8 a0_6, .int .u8 a0_7, .int .u8 a0_8]] (by rfl) rfl rfl (by (try simp only [List.map_toArray, List.map_cons, List.map_nil]); first | done | rfl | (simp only [List.length_drop, List.length_take]; rfl)) ?_
  with_reducible refine (identity_number_check.calls k a0_0 a0_1 a0_2 a0_3 a0_4 a0_5 a0_6 a0_7 a0_8 t115 _ A2.out).mono ?_
  rintro e w5 ⟨rfl, hb⟩
  refine ⟨_, rfl, ?_⟩
  have n0_ := Aside0.mk (blk_below (g := gb114) (o := .cells #[.int .u8 a0_0, .int .u8 a0_1, .int .u8 a0_2, .int .u8 a0_3, .int .u8 a0_4, .int .u8 a0_5, .int .u8 a0_6, .int .u8 a0_7, .int .u8 a0_8] 43 (0, 0)) (by (with_reducible repeat (first | refine blk_drewN ?_ _ | refine blk_drew ?_ | refine blk_alloc ?_ _)); exact BK114.out) hb)
  have n1_ := Aside0.mk (below_step (by repeat (first | (with_reducible first | exact HB.out | apply below_alloc | apply pw_below_drewN | apply below_drew1 | refine below_set ?_ GE114.out) | exact HB.out)) hb)
  clear BK114
  clear HB
  have BK114 := n0_
  have HB := n1_
  clear n0_ n1_
  (try clear hb)
  (try clear hb2)
  (try clear hk)
  (try clear hi)
  refine hK.out _ _ ⟨(blk_cell BK114.out 0).trans rfl, (blk_cell BK114.out 1).trans rfl, (blk_cell BK114.out 2).trans rfl, (blk_cell BK114.out 3).trans rfl, (blk_cell BK114.out 4).trans rfl, (blk_cell BK114.out 5).trans rfl, (blk_cell BK114.out 6).trans rfl, (blk_cell BK114.out 7).trans rfl, (blk_cell BK114.out 8).trans rfl⟩ (fun hHeld => ?_)
  clear hK K
  refine norm_ (a' := ?_) ?_ ?_
  rotate_left
  · show Act.put _ (some 6) _ = _
    simp only [Act.put, List.setIfInBounds_toArray, List.set_cons_zero, List.set_cons_succ, i64_w, i32_w]
    rfl
  refine pure_ (i := 4) (N := some 7) (v := ?_) (a' := ?_) #[true, true, true, true, true, false] rfl rfl (by kernel_rfl) (fun _ _ _ h => h) (Or.inl ⟨by rfl, ?_⟩) ?_ ?_
  rotate_left
  · intro w'
    go_simp
    with_reducible rfl
  rotate_left
  · simp only [Act.put, List.setIfInBounds_toArray, List.set_cons_zero, List.set_cons_succ, i64_w, i32_w]
    rfl
  refine pure_ (i := 5) (N := some 2) (v := ?_) (a' := ?_) #[true, true, true, true, true, true] rfl rfl (by kernel_rfl) (fun _ _ _ h => h) (Or.inl ⟨by rfl, ?_⟩) ?_ ?_
  rotate_left
  · intro w'
    go_simp
    with_reducible rfl
  rotate_left
  · simp only [Act.put, List.setIfInBounds_toArray, List.set_cons_zero, List.set_cons_succ, i64_w, i32_w]
    rfl
  refine done_ (by kernel_rfl) ?_
  try go_wp2
  go_ret
  exact ⟨by first | rfl | (simp [errW_none, errW_some] <;> rfl) | (simp [*, errW_none, errW_some] <;> rfl), by repeat (first | (with_reducible first | exact HB.out | apply below_alloc | apply pw_below_drewN | apply below_drew1 | refine below_set ?_ GE114.out) | exact HB.out)⟩

end Go.Proofs.Ytogkjlfinjlngaa.XU
