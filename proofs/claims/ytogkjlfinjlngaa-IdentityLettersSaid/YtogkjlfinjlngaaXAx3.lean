/- Go functions of the program as plain Lean functions with a number of rounds, and that the calls come to exactly their answers. Conditions: those in each theorem. Written by a program of this project (wip/tools/xprint.py). -/
import Derived.Test.YtogkjlfinjlngaaXAx0
import Derived.Test.YtogkjlfinjlngaaXAx2
namespace Go.Proofs.Ytogkjlfinjlngaa.XA
open Go.RowKit Go.Proofs.Ytogkjlfinjlngaa.Ix Go.Proofs.YtogkjlfinjlngaaW.PrintWords Go.Proofs.YtogkjlfinjlngaaW.PrintLast Go.Proofs.YtogkjlfinjlngaaW.PrintMore
attribute [local go_sem] max2_int min2_int max_two min_two max_three min_three max_four min_four   -- for this text's walks alone
set_option linter.unusedVariables false
set_option linter.unusedSimpArgs false

/-! ### awardingbodyref04_Format: function 14 -/
def awardingbodyref04_Format.f (k : Nat) (a0_0 : Int) (a0_1 : Int) (a0_2 : Int) : Option (ByteArray × Int) := (awardingbodyref04_Valid.f a0_0 a0_1 a0_2).bind fun t115 => (if t115 = true then ((awardingbodyref04_Padded.f k a0_0 2).bind fun t116 => ((awardingbodyref04_Padded.f k a0_1 2).bind fun t117 => (if t116.size + t117.size ≤ 9223372036854775807 then ((awardingbodyref04_Padded.f k a0_2 4).bind fun t118 => (if t116.size + t117.size + t118.size ≤ 9223372036854775807 then ((awardingbodyref04_Letter.f k ((t116 ++ t117) ++ t118)).bind fun bt119 => (if t116.size + t117.size + t118.size + bt119.1.size ≤ 9223372036854775807 then (some (((t116 ++ t117) ++ t118) ++ bt119.1, 0)) else (none))) else (none))) else (none)))) else (some ((⟨#[]⟩ : ByteArray), 2)))
theorem awardingbodyref04_Format.mono : ∀ a0 a1 a2 k, LeO (awardingbodyref04_Format.f k a0 a1 a2) (awardingbodyref04_Format.f (k + 1) a0 a1 a2) := by
  intro a0 a1 a2 k
  unfold awardingbodyref04_Format.f
  repeat' first
      | (with_reducible exact awardingbodyref04_Letter.mono _ _)
      | (with_reducible exact awardingbodyref04_Padded.mono _ _ _)
      | (with_reducible exact LeO.refl _)
      | (with_reducible exact LeO.none _)
      | (with_reducible refine LeO.ite ?_ ?_)
      | (with_reducible refine LeO.bind ?_ (fun _ => ?_))
      | exact awardingbodyref04_Letter.mono _ _
      | exact awardingbodyref04_Padded.mono _ _ _
      | exact LeO.none _
      | refine LeO.ite ?_ ?_
      | refine LeO.bind ?_ (fun _ => ?_)
def awardingbodyref04_Format.T3 : Bool × List (List Nat × List Nat) := (true, [([], []), ([0], [0]), ([1], [1]), ([], []), ([3], [3]), ([4, 2], [4]), ([2, 5], [2, 5]), ([], []), ([7], [7]), ([8, 5], [8]), ([6, 9], [6, 9]), ([10, 9, 0, 1, 2, 3, 4, 5, 6, 7, 8, 9, 10], [10])])
def awardingbodyref04_Format.B3 : List Nat := [0, 1, 3, 0, 8, 31, 63, 0, 128, 447, 1023, 2047]
theorem awardingbodyref04_Format.tab3 : rtab .any (opsOf Try.f14 3) = awardingbodyref04_Format.T3 := by kernel_rfl
theorem awardingbodyref04_Format.bits3 : waitsOk awardingbodyref04_Format.T3.2 awardingbodyref04_Format.B3 = true := by kernel_rfl
set_option maxHeartbeats 8000000 in
set_option maxRecDepth 100000 in
theorem awardingbodyref04_Format.calls (k : Nat) (a0_0 : Int) (a0_1 : Int) (a0_2 : Int) (r1 : ByteArray) (r2 : Int) (w : World) (h : awardingbodyref04_Format.f k a0_0 a0_1 a0_2 = some (r1, r2)) :
    Calls Try.prog 14 #[.agg #[.int .i64 a0_0, .int .i64 a0_1, .int .i64 a0_2]] w fun e w' => e = .returned (.tuple #[.string r1, .int .i64 r2]) ∧ Below w.heap.size w w' := by
  have hu23 := Try.underlying23
  have HB := Aside0.mk (Below.refl w.heap.size w)
  have H : ((awardingbodyref04_Valid.f a0_0 a0_1 a0_2).bind fun t115 => (if t115 = true then ((awardingbodyref04_Padded.f k a0_0 2).bind fun t116 => ((awardingbodyref04_Padded.f k a0_1 2).bind fun t117 => (if t116.size + t117.size ≤ 9223372036854775807 then ((awardingbodyref04_Padded.f k a0_2 4).bind fun t118 => (if t116.size + t117.size + t118.size ≤ 9223372036854775807 then ((awardingbodyref04_Letter.f k ((t116 ++ t117) ++ t118)).bind fun bt119 => (if t116.size + t117.size + t118.size + bt119.1.size ≤ 9223372036854775807 then (some (((t116 ++ t117) ++ t118) ++ bt119.1, 0)) else (none))) else (none))) else (none)))) else (some ((⟨#[]⟩ : ByteArray), 2)))) = some (r1, r2) := h
  clear h
  replace H := Option.bind_eq_some_iff.mp H
  obtain ⟨t115, A20, H⟩ := H
  replace H : (if t115 = true then ((awardingbodyref04_Padded.f k a0_0 2).bind fun t116 => ((awardingbodyref04_Padded.f k a0_1 2).bind fun t117 => (if t116.size + t117.size ≤ 9223372036854775807 then ((awardingbodyref04_Padded.f k a0_2 4).bind fun t118 => (if t116.size + t117.size + t118.size ≤ 9223372036854775807 then ((awardingbodyref04_Letter.f k ((t116 ++ t117) ++ t118)).bind fun bt119 => (if t116.size + t117.size + t118.size + bt119.1.size ≤ 9223372036854775807 then (some (((t116 ++ t117) ++ t118) ++ bt119.1, 0)) else (none))) else (none))) else (none)))) else (some ((⟨#[]⟩ : ByteArray), 2))) = some (r1, r2) := H
  have A2 := Aside0.mk A20
  clear A20
  by_cases c3 : t115 = true
  · subst c3
    have H1 : ((awardingbodyref04_Padded.f k a0_0 2).bind fun t116 => ((awardingbodyref04_Padded.f k a0_1 2).bind fun t117 => (if t116.size + t117.size ≤ 9223372036854775807 then ((awardingbodyref04_Padded.f k a0_2 4).bind fun t118 => (if t116.size + t117.size + t118.size ≤ 9223372036854775807 then ((awardingbodyref04_Letter.f k ((t116 ++ t117) ++ t118)).bind fun bt119 => (if t116.size + t117.size + t118.size + bt119.1.size ≤ 9223372036854775807 then (some (((t116 ++ t117) ++ t118) ++ bt119.1, 0)) else (none))) else (none))) else (none)))) = some (r1, r2) := by rw [if_pos rfl] at H; exact H
    clear H
    have H := H1
    clear H1
    replace H := Option.bind_eq_some_iff.mp H
    obtain ⟨t116, A40, H⟩ := H
    replace H : ((awardingbodyref04_Padded.f k a0_1 2).bind fun t117 => (if t116.size + t117.size ≤ 9223372036854775807 then ((awardingbodyref04_Padded.f k a0_2 4).bind fun t118 => (if t116.size + t117.size + t118.size ≤ 9223372036854775807 then ((awardingbodyref04_Letter.f k ((t116 ++ t117) ++ t118)).bind fun bt119 => (if t116.size + t117.size + t118.size + bt119.1.size ≤ 9223372036854775807 then (some (((t116 ++ t117) ++ t118) ++ bt119.1, 0)) else (none))) else (none))) else (none))) = some (r1, r2) := H
    have A4 := Aside0.mk A40
    clear A40
    replace H := Option.bind_eq_some_iff.mp H
    obtain ⟨t117, A50, H⟩ := H
    replace H : (if t116.size + t117.size ≤ 9223372036854775807 then ((awardingbodyref04_Padded.f k a0_2 4).bind fun t118 => (if t116.size + t117.size + t118.size ≤ 9223372036854775807 then ((awardingbodyref04_Letter.f k ((t116 ++ t117) ++ t118)).bind fun bt119 => (if t116.size + t117.size + t118.size + bt119.1.size ≤ 9223372036854775807 then (some (((t116 ++ t117) ++ t118) ++ bt119.1, 0)) else (none))) else (none))) else (none)) = some (r1, r2) := H
    have A5 := Aside0.mk A50
    clear A50
    by_cases c6 : t116.size + t117.size ≤ 9223372036854775807
    · rw [if_pos c6] at H
      have c6b0 := eq_true c6
      have c6b1 : decide (t116.size + t117.size ≤ 9223372036854775807) = true := decide_eq_true c6
      try have c6b2 : (9223372036854775807 < t116.size + t117.size) = False := eq_false (Nat.not_lt.2 c6)
      replace H := Option.bind_eq_some_iff.mp H
      obtain ⟨t118, A70, H⟩ := H
      replace H : (if t116.size + t117.size + t118.size ≤ 9223372036854775807 then ((awardingbodyref04_Letter.f k ((t116 ++ t117) ++ t118)).bind fun bt119 => (if t116.size + t117.size + t118.size + bt119.1.size ≤ 9223372036854775807 then (some (((t116 ++ t117) ++ t118) ++ bt119.1, 0)) else (none))) else (none)) = some (r1, r2) := H
      have A7 := Aside0.mk A70
      clear A70
      by_cases c8 : t116.size + t117.size + t118.size ≤ 9223372036854775807
      · rw [if_pos c8] at H
        have c8b0 := eq_true c8
        have c8b1 : decide (t116.size + t117.size + t118.size ≤ 9223372036854775807) = true := decide_eq_true c8
        try have c8b2 : (9223372036854775807 < t116.size + t117.size + t118.size) = False := eq_false (Nat.not_lt.2 c8)
        replace H := Option.bind_eq_some_iff.mp H
        obtain ⟨⟨t119, t120⟩, A90, H⟩ := H
        replace H : (if t116.size + t117.size + t118.size + t119.size ≤ 9223372036854775807 then (some (((t116 ++ t117) ++ t118) ++ t119, 0)) else (none)) = some (r1, r2) := H
        have A9 := Aside0.mk A90
        clear A90
        by_cases c10 : t116.size + t117.size + t118.size + t119.size ≤ 9223372036854775807
        · rw [if_pos c10] at H
          have c10b0 := eq_true c10
          have c10b1 : decide (t116.size + t117.size + t118.size + t119.size ≤ 9223372036854775807) = true := decide_eq_true c10
          try have c10b2 : (9223372036854775807 < t116.size + t117.size + t118.size + t119.size) = False := eq_false (Nat.not_lt.2 c10)
          simp only [Option.some.injEq, Prod.mk.injEq] at H
          obtain ⟨rfl, rfl⟩ := H
          go_enter Try.func14, Try.ntmps14
          try go_wp2_with (first | ((with_reducible refine gate_dst (N := 1) rfl ?_); refine box_event ?hg (N := 1) ?hd (cs := #[.int .i64 a0_0, .int .i64 a0_1, .int .i64 a0_2]) (t := 23) ?hr ?_; (case hd => rfl); (case hg => rfl); (case hr => first | (go_simp; done) | (go_simp; rfl)); intro gb114 hg w11 hbox hb; have n0_ := Aside0.mk (below_step (by repeat (first | (with_reducible first | exact HB.out | apply below_alloc | apply pw_below_drewN | apply below_drew1) | exact HB.out)) hb); have n1_ := Aside0.mk (hbox); have n2_ := Aside0.mk ((by rw [hg]; exact (below_size (by repeat (first | (with_reducible first | exact HB.out | apply below_alloc | apply pw_below_drewN | apply below_drew1) | exact HB.out))) : w.heap.size ≤ gb114)); have n3_ := Aside0.mk ((by rw [hg]; exact (below_size (by repeat (first | (with_reducible first | exact HB.out | apply below_alloc | apply pw_below_drewN | apply below_drew1) | exact HB.out))) : w.heap.size ≤ gb114)); clear HB; have HB := n0_; have BK114 := n1_; have GW114 := n2_; have GE114 := n3_; clear n0_ n1_ n2_ n3_; clear hb hbox hg; have hcz12_0 : w11.cell? ⟨gb114, 0, none⟩ = some (.int .i64 a0_0) := (blk_cell BK114.out 0).trans rfl; have hcz12_1 : w11.cell? ⟨gb114, 1, none⟩ = some (.int .i64 a0_1) := (blk_cell BK114.out 1).trans rfl; have hcz12_2 : w11.cell? ⟨gb114, 2, none⟩ = some (.int .i64 a0_2) := (blk_cell BK114.out 2).trans rfl; have hfz12_0 := blk_frozen BK114.out 0; have hfz12_1 := blk_frozen BK114.out 1; have hfz12_2 := blk_frozen BK114.out 2) | ((with_reducible refine gate_callee (f := 16) rfl ?_); refine goesL_ (some 8) rfl rfl Try.func16 (by kernel_rfl) rfl #[.agg #[.int .i64 a0_0, .int .i64 a0_1, .int .i64 a0_2]] rfl (by (try simp only [List.map_toArray, List.map_cons, List.map_nil]); first | done | rfl | (simp only [List.length_drop, List.length_take]; rfl)) ?_; (with_reducible refine (awardingbodyref04_Valid.calls a0_0 a0_1 a0_2 true _ A2.out).mono ?_); rintro e w13 ⟨rfl, hb⟩; refine ⟨_, rfl, ?_⟩; have n0_ := Aside0.mk (blk_below (g := gb114) (o := .cells #[.int .i64 a0_0, .int .i64 a0_1, .int .i64 a0_2] 23 (0, 0)) (by (with_reducible repeat (first | refine blk_drewN ?_ _ | refine blk_drew ?_ | refine blk_alloc ?_ _)); exact BK114.out) hb); have n1_ := Aside0.mk (below_step (by repeat (first | (with_reducible first | exact HB.out | apply below_alloc | apply pw_below_drewN | apply below_drew1 | refine below_set ?_ GE114.out) | exact HB.out)) hb); clear BK114; clear HB; have BK114 := n0_; have HB := n1_; clear n0_ n1_; (try clear hb); (try clear hb2); (try clear hk); (try clear hi)))
          have n0_ := Aside0.mk (blk_drew BK114.out)
          have n1_ := Aside0.mk (below_drew1 HB.out)
          clear BK114
          clear HB
          have BK114 := n0_
          have HB := n1_
          clear n0_ n1_
          refine start_ (n := 12) (S := fun w' => w'.cell? ⟨gb114, 0, none⟩ = some (.int .i64 a0_0) ∧ w'.cell? ⟨gb114, 1, none⟩ = some (.int .i64 a0_1) ∧ w'.cell? ⟨gb114, 2, none⟩ = some (.int .i64 a0_2)) (ds := []) #[false, false, false, false, false, false, false, false, false, false, false, false] (by kernel_rfl) rfl rfl ⟨(blk_cell BK114.out 0).trans rfl, (blk_cell BK114.out 1).trans rfl, (blk_cell BK114.out 2).trans rfl⟩ (fun hHeld => ?_); refine with_tabW awardingbodyref04_Format.tab3 awardingbodyref04_Format.bits3 (fun HT_ HW_ => ?_)
          generalize w13.drew = w14 at BK114 HB hHeld ⊢
          refine pure_ (i := 0) (N := some 10) (v := ?_) (a' := ?_) #[true, false, false, false, false, false, false, false, false, false, false, false] rfl rfl (any_of HT_.out (by kernel_rfl)) (fun _ _ _ h => h) (Or.inl ⟨by rfl, ?_⟩) ?_ ?_
          rotate_left
          · intro w'
            go_simp
            with_reducible rfl
          rotate_left
          · simp only [Act.put, List.setIfInBounds_toArray, List.set_cons_zero, List.set_cons_succ, i64_w, i32_w]
            rfl
          refine pure_ (i := 3) (N := some 13) (v := ?_) (a' := ?_) #[true, false, false, true, false, false, false, false, false, false, false, false] rfl rfl (any_of HT_.out (by kernel_rfl)) (fun _ _ _ h => h) (Or.inl ⟨by rfl, ?_⟩) ?_ ?_
          rotate_left
          · intro w'
            go_simp
            with_reducible rfl
          rotate_left
          · simp only [Act.put, List.setIfInBounds_toArray, List.set_cons_zero, List.set_cons_succ, i64_w, i32_w]
            rfl
          refine pure_ (i := 7) (N := some 17) (v := ?_) (a' := ?_) #[true, false, false, true, false, false, false, true, false, false, false, false] rfl rfl (any_of HT_.out (by kernel_rfl)) (fun _ _ _ h => h) (Or.inl ⟨by rfl, ?_⟩) ?_ ?_
          rotate_left
          · intro w'
            go_simp
            with_reducible rfl
          rotate_left
          · simp only [Act.put, List.setIfInBounds_toArray, List.set_cons_zero, List.set_cons_succ, i64_w, i32_w]
            rfl
          refine take_ (i := 1) (N := some 11) (v := ?_) (a' := ?_) #[true, true, false, true, false, false, false, true, false, false, false, false] rfl rfl (take_ofW HT_.out HW_.out (by kernel_rfl)) (fun _ _ _ h => h) (Or.inl ⟨by rfl, ?_⟩) hHeld ?_ ?_
          rotate_left
          · rintro w' ⟨s0, s1, s2⟩
            go_simp
            with_reducible rfl
          rotate_left
          · simp only [Act.put, List.setIfInBounds_toArray, List.set_cons_zero, List.set_cons_succ, i64_w, i32_w]
            rfl
          refine take_ (i := 4) (N := some 14) (v := ?_) (a' := ?_) #[true, true, false, true, true, false, false, true, false, false, false, false] rfl rfl (take_ofW HT_.out HW_.out (by kernel_rfl)) (fun _ _ _ h => h) (Or.inl ⟨by rfl, ?_⟩) hHeld ?_ ?_
          rotate_left
          · rintro w' ⟨s0, s1, s2⟩
            go_simp
            with_reducible rfl
          rotate_left
          · simp only [Act.put, List.setIfInBounds_toArray, List.set_cons_zero, List.set_cons_succ, i64_w, i32_w]
            rfl
          refine take_ (i := 8) (N := some 18) (v := ?_) (a' := ?_) #[true, true, false, true, true, false, false, true, true, false, false, false] rfl rfl (take_ofW HT_.out HW_.out (by kernel_rfl)) (fun _ _ _ h => h) (Or.inl ⟨by rfl, ?_⟩) hHeld ?_ ?_
          rotate_left
          · rintro w' ⟨s0, s1, s2⟩
            go_simp
            with_reducible rfl
          rotate_left
          · simp only [Act.put, List.setIfInBounds_toArray, List.set_cons_zero, List.set_cons_succ, i64_w, i32_w]
            rfl
          refine one_ (i := 2) (N := some 12) #[true, true, true, true, true, false, false, true, true, false, false, false] rfl rfl (one_of HT_.out (by kernel_rfl)) (by decide) (fun K hK => ?_)
          refine goes_ Try.func29 (by kernel_rfl) rfl #[.int .i64 a0_0, .int .i64 2] (by rfl) rfl rfl (by (try simp only [List.map_toArray, List.map_cons, List.map_nil]); first | done | rfl | (simp only [List.length_drop, List.length_take]; rfl)) ?_
          with_reducible refine (awardingbodyref04_Padded.calls k a0_0 2 t116 _ A4.out).mono ?_
          rintro e w15 ⟨rfl, hb⟩
          refine ⟨_, rfl, ?_⟩
          have n0_ := Aside0.mk (blk_below (g := gb114) (o := .cells #[.int .i64 a0_0, .int .i64 a0_1, .int .i64 a0_2] 23 (0, 0)) (by (with_reducible repeat (first | refine blk_drewN ?_ _ | refine blk_drew ?_ | refine blk_alloc ?_ _)); exact BK114.out) hb)
          have n1_ := Aside0.mk (below_step (by repeat (first | (with_reducible first | exact HB.out | apply below_alloc | apply pw_below_drewN | apply below_drew1 | refine below_set ?_ GE114.out) | exact HB.out)) hb)
          clear BK114
          clear HB
          have BK114 := n0_
          have HB := n1_
          clear n0_ n1_
          (try clear hb)
          (try clear hb2)
          (try clear hk)
          (try clear hi)
          refine hK.out _ _ ⟨(blk_cell BK114.out 0).trans rfl, (blk_cell BK114.out 1).trans rfl, (blk_cell BK114.out 2).trans rfl⟩ (fun hHeld => ?_)
          clear hK K
          refine norm_ (a' := ?_) ?_ ?_
          rotate_left
          · show Act.put _ (some 12) _ = _
            simp only [Act.put, List.setIfInBounds_toArray, List.set_cons_zero, List.set_cons_succ, i64_w, i32_w]
            rfl
          refine one_ (i := 5) (N := some 15) #[true, true, true, true, true, true, false, true, true, false, false, false] rfl rfl (one_of HT_.out (by kernel_rfl)) (by decide) (fun K hK => ?_)
          refine goes_ Try.func29 (by kernel_rfl) rfl #[.int .i64 a0_1, .int .i64 2] (by rfl) rfl rfl (by (try simp only [List.map_toArray, List.map_cons, List.map_nil]); first | done | rfl | (simp only [List.length_drop, List.length_take]; rfl)) ?_
          with_reducible refine (awardingbodyref04_Padded.calls k a0_1 2 t117 _ A5.out).mono ?_
          rintro e w16 ⟨rfl, hb⟩
          refine ⟨_, rfl, ?_⟩
          have n0_ := Aside0.mk (blk_below (g := gb114) (o := .cells #[.int .i64 a0_0, .int .i64 a0_1, .int .i64 a0_2] 23 (0, 0)) (by (with_reducible repeat (first | refine blk_drewN ?_ _ | refine blk_drew ?_ | refine blk_alloc ?_ _)); exact BK114.out) hb)
          have n1_ := Aside0.mk (below_step (by repeat (first | (with_reducible first | exact HB.out | apply below_alloc | apply pw_below_drewN | apply below_drew1 | refine below_set ?_ GE114.out) | exact HB.out)) hb)
          clear BK114
          clear HB
          have BK114 := n0_
          have HB := n1_
          clear n0_ n1_
          (try clear hb)
          (try clear hb2)
          (try clear hk)
          (try clear hi)
          refine hK.out _ _ ⟨(blk_cell BK114.out 0).trans rfl, (blk_cell BK114.out 1).trans rfl, (blk_cell BK114.out 2).trans rfl⟩ (fun hHeld => ?_)
          clear hK K
          refine norm_ (a' := ?_) ?_ ?_
          rotate_left
          · show Act.put _ (some 15) _ = _
            simp only [Act.put, List.setIfInBounds_toArray, List.set_cons_zero, List.set_cons_succ, i64_w, i32_w]
            rfl
          refine pure_ (i := 6) (N := some 16) (v := ?_) (a' := ?_) #[true, true, true, true, true, true, true, true, true, false, false, false] rfl rfl (any_of HT_.out (by kernel_rfl)) (fun _ _ _ h => h) (Or.inl ⟨by rfl, ?_⟩) ?_ ?_
          rotate_left
          · intro w'
            go_simp
            with_reducible rfl
          rotate_left
          · simp only [Act.put, List.setIfInBounds_toArray, List.set_cons_zero, List.set_cons_succ, i64_w, i32_w]
            rfl
          refine one_ (i := 9) (N := some 19) #[true, true, true, true, true, true, true, true, true, true, false, false] rfl rfl (one_of HT_.out (by kernel_rfl)) (by decide) (fun K hK => ?_)
          refine goes_ Try.func29 (by kernel_rfl) rfl #[.int .i64 a0_2, .int .i64 4] (by rfl) rfl rfl (by (try simp only [List.map_toArray, List.map_cons, List.map_nil]); first | done | rfl | (simp only [List.length_drop, List.length_take]; rfl)) ?_
          with_reducible refine (awardingbodyref04_Padded.calls k a0_2 4 t118 _ A7.out).mono ?_
          rintro e w17 ⟨rfl, hb⟩
          refine ⟨_, rfl, ?_⟩
          have n0_ := Aside0.mk (blk_below (g := gb114) (o := .cells #[.int .i64 a0_0, .int .i64 a0_1, .int .i64 a0_2] 23 (0, 0)) (by (with_reducible repeat (first | refine blk_drewN ?_ _ | refine blk_drew ?_ | refine blk_alloc ?_ _)); exact BK114.out) hb)
          have n1_ := Aside0.mk (below_step (by repeat (first | (with_reducible first | exact HB.out | apply below_alloc | apply pw_below_drewN | apply below_drew1 | refine below_set ?_ GE114.out) | exact HB.out)) hb)
          clear BK114
          clear HB
          have BK114 := n0_
          have HB := n1_
          clear n0_ n1_
          (try clear hb)
          (try clear hb2)
          (try clear hk)
          (try clear hi)
          refine hK.out _ _ ⟨(blk_cell BK114.out 0).trans rfl, (blk_cell BK114.out 1).trans rfl, (blk_cell BK114.out 2).trans rfl⟩ (fun hHeld => ?_)
          clear hK K
          refine norm_ (a' := ?_) ?_ ?_
          rotate_left
          · show Act.put _ (some 19) _ = _
            simp only [Act.put, List.setIfInBounds_toArray, List.set_cons_zero, List.set_cons_succ, i64_w, i32_w]
            rfl
          refine pure_ (i := 10) (N := some 20) (v := ?_) (a' := ?_) #[true, true, true, true, true, true, true, true, true, true, true, false] rfl rfl (any_of HT_.out (by kernel_rfl)) (fun _ _ _ h => h) (Or.inl ⟨by rfl, ?_⟩) ?_ ?_
          rotate_left
          · intro w'
            go_simp
            with_reducible rfl
          rotate_left
          · simp only [Act.put, List.setIfInBounds_toArray, List.set_cons_zero, List.set_cons_succ, i64_w, i32_w]
            rfl
          refine pure_ (i := 11) (N := some 4) (v := ?_) (a' := ?_) #[true, true, true, true, true, true, true, true, true, true, true, true] rfl rfl (any_of HT_.out (by kernel_rfl)) (fun _ _ _ h => h) (Or.inl ⟨by rfl, ?_⟩) ?_ ?_
          rotate_left
          · intro w'
            go_simp
            with_reducible rfl
          rotate_left
          · simp only [Act.put, List.setIfInBounds_toArray, List.set_cons_zero, List.set_cons_succ, i64_w, i32_w]
            rfl
          refine done_ (done_of HT_.out (by kernel_rfl)) ?_
          try go_wp2_with (first | ((with_reducible refine gate_callee (f := 22) rfl ?_); refine goesL_ (some 23) rfl rfl Try.func22 (by kernel_rfl) rfl #[.string ((t116 ++ t117) ++ t118)] rfl (by (try simp only [List.map_toArray, List.map_cons, List.map_nil]); first | done | rfl | (simp only [List.length_drop, List.length_take]; rfl)) ?_; (with_reducible refine (awardingbodyref04_Letter.calls k ((t116 ++ t117) ++ t118) t119 t120 _ A9.out).mono ?_); rintro e w' ⟨rfl, ⟨nd, rfl⟩⟩; refine ⟨_, rfl, ?_⟩))
          go_ret2
          exact ⟨by first | rfl | (simp [errW_none, errW_some] <;> rfl) | (simp [*, errW_none, errW_some] <;> rfl), by repeat (first | (with_reducible first | exact HB.out | apply below_alloc | apply pw_below_drewN | apply below_drew1 | refine below_set ?_ GE114.out) | exact HB.out)⟩
        · rw [if_neg c10] at H
          exact absurd H (by simp)
      · rw [if_neg c8] at H
        exact absurd H (by simp)
    · rw [if_neg c6] at H
      exact absurd H (by simp)
  · replace c3 := Bool.eq_false_iff.mpr c3
    subst c3
    have H1 : (some ((⟨#[]⟩ : ByteArray), 2)) = some (r1, r2) := by rw [if_neg (show ¬ (false = true) by decide)] at H; exact H
    clear H
    have H := H1
    clear H1
    simp only [Option.some.injEq, Prod.mk.injEq] at H
    obtain ⟨rfl, rfl⟩ := H
    go_enter Try.func14, Try.ntmps14
    go_wp2_with (first | ((with_reducible refine gate_dst (N := 1) rfl ?_); refine box_event ?hg (N := 1) ?hd (cs := #[.int .i64 a0_0, .int .i64 a0_1, .int .i64 a0_2]) (t := 23) ?hr ?_; (case hd => rfl); (case hg => rfl); (case hr => first | (go_simp; done) | (go_simp; rfl)); intro gb114 hg w18 hbox hb; have n0_ := Aside0.mk (below_step (by repeat (first | (with_reducible first | exact HB.out | apply below_alloc | apply pw_below_drewN | apply below_drew1) | exact HB.out)) hb); have n1_ := Aside0.mk (hbox); have n2_ := Aside0.mk ((by rw [hg]; exact (below_size (by repeat (first | (with_reducible first | exact HB.out | apply below_alloc | apply pw_below_drewN | apply below_drew1) | exact HB.out))) : w.heap.size ≤ gb114)); have n3_ := Aside0.mk ((by rw [hg]; exact (below_size (by repeat (first | (with_reducible first | exact HB.out | apply below_alloc | apply pw_below_drewN | apply below_drew1) | exact HB.out))) : w.heap.size ≤ gb114)); clear HB; have HB := n0_; have BK114 := n1_; have GW114 := n2_; have GE114 := n3_; clear n0_ n1_ n2_ n3_; clear hb hbox hg; have hcz19_0 : w18.cell? ⟨gb114, 0, none⟩ = some (.int .i64 a0_0) := (blk_cell BK114.out 0).trans rfl; have hcz19_1 : w18.cell? ⟨gb114, 1, none⟩ = some (.int .i64 a0_1) := (blk_cell BK114.out 1).trans rfl; have hcz19_2 : w18.cell? ⟨gb114, 2, none⟩ = some (.int .i64 a0_2) := (blk_cell BK114.out 2).trans rfl; have hfz19_0 := blk_frozen BK114.out 0; have hfz19_1 := blk_frozen BK114.out 1; have hfz19_2 := blk_frozen BK114.out 2) | ((with_reducible refine gate_callee (f := 16) rfl ?_); refine goesL_ (some 8) rfl rfl Try.func16 (by kernel_rfl) rfl #[.agg #[.int .i64 a0_0, .int .i64 a0_1, .int .i64 a0_2]] rfl (by (try simp only [List.map_toArray, List.map_cons, List.map_nil]); first | done | rfl | (simp only [List.length_drop, List.length_take]; rfl)) ?_; (with_reducible refine (awardingbodyref04_Valid.calls a0_0 a0_1 a0_2 false _ A2.out).mono ?_); rintro e w20 ⟨rfl, hb⟩; refine ⟨_, rfl, ?_⟩; have n0_ := Aside0.mk (blk_below (g := gb114) (o := .cells #[.int .i64 a0_0, .int .i64 a0_1, .int .i64 a0_2] 23 (0, 0)) (by (with_reducible repeat (first | refine blk_drewN ?_ _ | refine blk_drew ?_ | refine blk_alloc ?_ _)); exact BK114.out) hb); have n1_ := Aside0.mk (below_step (by repeat (first | (with_reducible first | exact HB.out | apply below_alloc | apply pw_below_drewN | apply below_drew1 | refine below_set ?_ GE114.out) | exact HB.out)) hb); clear BK114; clear HB; have BK114 := n0_; have HB := n1_; clear n0_ n1_; (try clear hb); (try clear hb2); (try clear hk); (try clear hi)))
    go_ret2
    exact ⟨by first | rfl | (simp [errW_none, errW_some] <;> rfl) | (simp [*, errW_none, errW_some] <;> rfl), by repeat (first | (with_reducible first | exact HB.out | apply below_alloc | apply pw_below_drewN | apply below_drew1 | refine below_set ?_ GE114.out) | exact HB.out)⟩

-- NOT PRINTED: function 49 (bytealg_IndexByteString)

-- NOT PRINTED: function 45 (stringslite_IndexByte)

/-! ### strings_IndexByte: function 34 -/

theorem strings_IndexByte.walk_in (s : ByteArray) (c : Int) (w : World) :
    Calls Try.prog 45 #[.string s, .int .u8 c] w fun e w' => e = .returned (.int .i64 (Lib.indexByte s.data.toList c.toNat.toUInt8)) ∧ Drawn0 w w' := by
  go_enter Try.func45, Try.ntmps45
  go_wp2
  rw [run_callFunc_extern Try.func49 (by kernel_rfl) (by kernel_rfl) (by kernel_rfl) (e := Extern.BytealgIndexByte.indexByte) (by kernel_rfl), Lib.run_indexByteString]
  simp only [Result.andThen]
  rw [Oper.upon_value]
  go_wp2
  go_ret
  exact ⟨rfl, Drawn0.refl _⟩
def strings_IndexByte.f (a0 : ByteArray) (a1 : Int) : Option (Int) := some (Lib.indexByte a0.data.toList a1.toNat.toUInt8)
theorem strings_IndexByte.calls (a0 : ByteArray) (a1 : Int) (r : Int) (w : World) (h : strings_IndexByte.f a0 a1 = some r) :
    Calls Try.prog 34 #[.string a0, .int .u8 a1] w fun e w' => e = .returned (.int .i64 r) ∧ Drawn0 w w' := by
  obtain rfl := Option.some.inj h
  go_enter Try.func34, Try.ntmps34
  go_wp2_with (go_at_call 45; refine (strings_IndexByte.walk_in _ _ _).mono ?_; rintro e w' ⟨rfl, hd⟩)
  go_ret
  exact ⟨rfl, hd⟩

/-! ### identity_at: function 41 -/
def identity_at.f (a0 : Int) : Option (ByteArray) := if a0 = 8 then (some (⟨#[65, 66, 67, 68, 69, 70, 71, 72, 74, 75, 76, 77, 78, 80, 81, 82, 83, 84, 85, 86, 87, 88, 89]⟩ : ByteArray)) else (some (⟨#[48, 49, 50, 51, 52, 53, 54, 55, 56, 57]⟩ : ByteArray))
set_option maxHeartbeats 8000000 in
set_option maxRecDepth 100000 in
theorem identity_at.calls (a0 : Int) (r : ByteArray) (w : World) (h : identity_at.f a0 = some r) :
    Calls Try.prog 41 #[.int .i64 a0] w fun e w' => e = .returned (.string r) ∧ Drawn0 w w' := by
  have H : (if a0 = 8 then (some (⟨#[65, 66, 67, 68, 69, 70, 71, 72, 74, 75, 76, 77, 78, 80, 81, 82, 83, 84, 85, 86, 87, 88, 89]⟩ : ByteArray)) else (some (⟨#[48, 49, 50, 51, 52, 53, 54, 55, 56, 57]⟩ : ByteArray))) = some r := h
  clear h
  by_cases c2 : a0 = 8
  · rw [if_pos c2] at H
    have c2b0 : (a0 == 8) = true := beq_iff_eq.mpr c2
    have c2b1 : (a0 != 8) = false := bne_eq_false_iff_eq.mpr c2
    clear c2
    obtain rfl := Option.some.inj H
    go_enter Try.func41, Try.ntmps41
    go_wp2
    go_ret
    exact ⟨by first | rfl | (simp; done) | (simp [*]; done), by repeat (first | exact Drawn0.refl _ | apply Drawn0.step)⟩
  · rw [if_neg c2] at H
    have c2b0 : (a0 == 8) = false := beq_eq_false_iff_ne.mpr c2
    have c2b1 : (a0 != 8) = true := bne_iff_ne.mpr c2
    obtain rfl := Option.some.inj H
    go_enter Try.func41, Try.ntmps41
    go_wp2
    go_ret
    exact ⟨by first | rfl | (simp; done) | (simp [*]; done), by repeat (first | exact Drawn0.refl _ | apply Drawn0.step)⟩

/-! ### identity_read: function 30 -/
def identity_read.l0 : Nat → ByteArray → ByteArray → Int → Int → Int → Int → Int → Int → Int → Int → Int → Int → Option (Int × Int × Int × Int × Int × Int × Int × Int × Int × Bool)
  | 0, _, _, _, _, _, _, _, _, _, _, _, _ => none
  | k + 1, x0, x1, x12, x123000, x123001, x123002, x123003, x123004, x123005, x123006, x123007, x123008 => if x12 < 9 then (if 0 ≤ x12 then (if x12 < (x0.size : Int) then ((identity_at.f x12).bind fun t123 => (if t123.size + x1.size ≤ 9223372036854775807 then ((strings_IndexByte.f (t123 ++ x1) (bt x0 x12)).bind fun t124 => (if t124 < 0 then (some (sx 0 x12 (bt x0 x12) x123000, sx 1 x12 (bt x0 x12) x123001, sx 2 x12 (bt x0 x12) x123002, sx 3 x12 (bt x0 x12) x123003, sx 4 x12 (bt x0 x12) x123004, sx 5 x12 (bt x0 x12) x123005, sx 6 x12 (bt x0 x12) x123006, sx 7 x12 (bt x0 x12) x123007, sx 8 x12 (bt x0 x12) x123008, false)) else (identity_read.l0 k x0 x1 (wrap64 (x12 + 1)) (sx 0 x12 (bt x0 x12) x123000) (sx 1 x12 (bt x0 x12) x123001) (sx 2 x12 (bt x0 x12) x123002) (sx 3 x12 (bt x0 x12) x123003) (sx 4 x12 (bt x0 x12) x123004) (sx 5 x12 (bt x0 x12) x123005) (sx 6 x12 (bt x0 x12) x123006) (sx 7 x12 (bt x0 x12) x123007) (sx 8 x12 (bt x0 x12) x123008)))) else (none))) else (none)) else (none)) else (some (x123000, x123001, x123002, x123003, x123004, x123005, x123006, x123007, x123008, true))
def identity_read.f (k : Nat) (a0 : ByteArray) (a1 : ByteArray) : Option (Int × Int × Int × Int × Int × Int × Int × Int × Int × Bool) := if (a0.size : Int) = 9 then (identity_read.l0 k a0 a1 0 0 0 0 0 0 0 0 0 0) else (some (0, 0, 0, 0, 0, 0, 0, 0, 0, false))
theorem identity_read.mono_l : ∀ k, (∀ y0 y1 y2 y3 y4 y5 y6 y7 y8 y9 y10 y11, LeO (identity_read.l0 k y0 y1 y2 y3 y4 y5 y6 y7 y8 y9 y10 y11) (identity_read.l0 (k + 1) y0 y1 y2 y3 y4 y5 y6 y7 y8 y9 y10 y11))
  | 0 => fun _ _ _ _ _ _ _ _ _ _ _ _ r h => by simp [identity_read.l0] at h
  | k + 1 => by
    have ih0 := identity_read.mono_l k
    · intro y0 y1 y2 y3 y4 y5 y6 y7 y8 y9 y10 y11
      unfold identity_read.l0
      repeat' first
      | (with_reducible exact ih0 _ _ _ _ _ _ _ _ _ _ _ _)
      | (with_reducible exact LeO.refl _)
      | (with_reducible exact LeO.none _)
      | (with_reducible refine LeO.ite ?_ ?_)
      | (with_reducible refine LeO.bind ?_ (fun _ => ?_))
      | exact ih0 _ _ _ _ _ _ _ _ _ _ _ _
      | exact LeO.none _
      | refine LeO.ite ?_ ?_
      | refine LeO.bind ?_ (fun _ => ?_)
theorem identity_read.mono : ∀ a0 a1 k, LeO (identity_read.f k a0 a1) (identity_read.f (k + 1) a0 a1) := by
  intro a0 a1 k
  have ih0 := identity_read.mono_l k
  unfold identity_read.f
  repeat' first
      | (with_reducible exact ih0 _ _ _ _ _ _ _ _ _ _ _ _)
      | (with_reducible exact LeO.refl _)
      | (with_reducible exact LeO.none _)
      | (with_reducible refine LeO.ite ?_ ?_)
      | (with_reducible refine LeO.bind ?_ (fun _ => ?_))
      | exact ih0 _ _ _ _ _ _ _ _ _ _ _ _
      | exact LeO.none _
      | refine LeO.ite ?_ ?_
      | refine LeO.bind ?_ (fun _ => ?_)
set_option maxHeartbeats 8000000 in
set_option maxRecDepth 100000 in
theorem identity_read.calls (k : Nat) (a0 : ByteArray) (a1 : ByteArray) (r1 : Int) (r2 : Int) (r3 : Int) (r4 : Int) (r5 : Int) (r6 : Int) (r7 : Int) (r8 : Int) (r9 : Int) (r10 : Bool) (w : World) (h : identity_read.f k a0 a1 = some (r1, r2, r3, r4, r5, r6, r7, r8, r9, r10)) :
    Calls Try.prog 30 #[.string a0, .string a1] w fun e w' => e = .returned (.tuple #[.agg #[.int .u8 r1, .int .u8 r2, .int .u8 r3, .int .u8 r4, .int .u8 r5, .int .u8 r6, .int .u8 r7, .int .u8 r8, .int .u8 r9], .bool r10]) ∧ Below w.heap.size w w' := by
  have hu43 := Try.underlying43
  have HB := Aside0.mk (Below.refl w.heap.size w)
  have H : (if (a0.size : Int) = 9 then (identity_read.l0 k a0 a1 0 0 0 0 0 0 0 0 0 0) else (some (0, 0, 0, 0, 0, 0, 0, 0, 0, false))) = some (r1, r2, r3, r4, r5, r6, r7, r8, r9, r10) := h
  clear h
  by_cases c3 : (a0.size : Int) = 9
  · rw [if_pos c3] at H
    have c3b0 : ((a0.size : Int) == 9) = true := beq_iff_eq.mpr c3
    have c3b1 : ((a0.size : Int) != 9) = false := bne_eq_false_iff_eq.mpr c3
    clear c3
    have H' := Aside0.mk H
    clear H
    go_enter Try.func30, Try.ntmps30
    go_wp2_with (first | ((with_reducible refine gate_dst (N := 4) rfl ?_); refine box_event ?hg (N := 4) ?hd (cs := #[.int .u8 0, .int .u8 0, .int .u8 0, .int .u8 0, .int .u8 0, .int .u8 0, .int .u8 0, .int .u8 0, .int .u8 0]) (t := 43) ?hr ?_; (case hd => rfl); (case hg => rfl); (case hr => first | (go_simp; done) | (go_simp; rfl)); intro gb121 hg w4 hbox hb; have n0_ := Aside0.mk (below_step (by repeat (first | (with_reducible first | exact HB.out | apply below_alloc | apply pw_below_drewN | apply below_drew1) | exact HB.out)) hb); have n1_ := Aside0.mk (hbox); have n2_ := Aside0.mk ((by rw [hg]; exact (below_size (by repeat (first | (with_reducible first | exact HB.out | apply below_alloc | apply pw_below_drewN | apply below_drew1) | exact HB.out))) : w.heap.size ≤ gb121)); have n3_ := Aside0.mk ((by rw [hg]; exact (below_size (by repeat (first | (with_reducible first | exact HB.out | apply below_alloc | apply pw_below_drewN | apply below_drew1) | exact HB.out))) : w.heap.size ≤ gb121)); clear HB; have HB := n0_; have BK121 := n1_; have GW121 := n2_; have GE121 := n3_; clear n0_ n1_ n2_ n3_; clear hb hbox hg) | ((with_reducible refine gate_dst (N := 6) rfl ?_); refine box_event ?hg (N := 6) ?hd (cs := #[.int .u8 0, .int .u8 0, .int .u8 0, .int .u8 0, .int .u8 0, .int .u8 0, .int .u8 0, .int .u8 0, .int .u8 0]) (t := 43) ?hr ?_; (case hd => rfl); (case hg => rfl); (case hr => first | (go_simp; done) | (go_simp; rfl)); intro gb122 hg w5 hbox hb; have n0_ := Aside0.mk (blk_below (g := gb121) (o := .cells #[.int .u8 0, .int .u8 0, .int .u8 0, .int .u8 0, .int .u8 0, .int .u8 0, .int .u8 0, .int .u8 0, .int .u8 0] 43 (0, 0)) (by (with_reducible repeat (first | refine blk_drewN ?_ _ | refine blk_drew ?_ | refine blk_alloc ?_ _)); exact BK121.out) hb); have n1_ := Aside0.mk (below_step (by repeat (first | (with_reducible first | exact HB.out | apply below_alloc | apply pw_below_drewN | apply below_drew1 | refine below_set ?_ GE121.out) | exact HB.out)) hb); have n2_ := Aside0.mk (hbox); have n3_ := Aside0.mk ((by rw [hg]; exact (below_size (by repeat (first | (with_reducible first | exact HB.out | apply below_alloc | apply pw_below_drewN | apply below_drew1 | refine below_set ?_ GE121.out) | exact HB.out))) : w.heap.size ≤ gb122)); have n4_ := Aside0.mk ((by rw [hg]; exact (below_size (by repeat (first | (with_reducible first | exact HB.out | apply below_alloc | apply pw_below_drewN | apply below_drew1 | refine below_set ?_ GE121.out) | exact HB.out))) : w.heap.size ≤ gb122)); have n5_ := Aside0.mk ((by rw [hg]; exact Nat.ne_of_lt (blk_lt (g := gb121) (o := .cells #[.int .u8 0, .int .u8 0, .int .u8 0, .int .u8 0, .int .u8 0, .int .u8 0, .int .u8 0, .int .u8 0, .int .u8 0] 43 (0, 0)) (by (with_reducible repeat (first | refine blk_drewN ?_ _ | refine blk_drew ?_ | refine blk_alloc ?_ _)); exact BK121.out)) : gb121 ≠ gb122)); have n6_ := Aside0.mk ((by rw [hg]; exact Nat.ne_of_gt (blk_lt (g := gb121) (o := .cells #[.int .u8 0, .int .u8 0, .int .u8 0, .int .u8 0, .int .u8 0, .int .u8 0, .int .u8 0, .int .u8 0, .int .u8 0] 43 (0, 0)) (by (with_reducible repeat (first | refine blk_drewN ?_ _ | refine blk_drew ?_ | refine blk_alloc ?_ _)); exact BK121.out)) : gb122 ≠ gb121)); clear BK121; clear HB; have BK121 := n0_; have HB := n1_; have BK122 := n2_; have GW122 := n3_; have GE122 := n4_; have NB121_122 := n5_; have NB122_121 := n6_; clear n0_ n1_ n2_ n3_ n4_ n5_ n6_; clear hb hbox hg))
    repeat (go_quiet (first | ((with_reducible refine gate_dst (N := 4) rfl ?_); refine box_event ?hg (N := 4) ?hd (cs := #[.int .u8 0, .int .u8 0, .int .u8 0, .int .u8 0, .int .u8 0, .int .u8 0, .int .u8 0, .int .u8 0, .int .u8 0]) (t := 43) ?hr ?_; (case hd => rfl); (case hg => rfl); (case hr => first | (go_simp; done) | (go_simp; rfl)); intro gb121 hg w4 hbox hb; have n0_ := Aside0.mk (below_step (by repeat (first | (with_reducible first | exact HB.out | apply below_alloc | apply pw_below_drewN | apply below_drew1) | exact HB.out)) hb); have n1_ := Aside0.mk (hbox); have n2_ := Aside0.mk ((by rw [hg]; exact (below_size (by repeat (first | (with_reducible first | exact HB.out | apply below_alloc | apply pw_below_drewN | apply below_drew1) | exact HB.out))) : w.heap.size ≤ gb121)); have n3_ := Aside0.mk ((by rw [hg]; exact (below_size (by repeat (first | (with_reducible first | exact HB.out | apply below_alloc | apply pw_below_drewN | apply below_drew1) | exact HB.out))) : w.heap.size ≤ gb121)); clear HB; have HB := n0_; have BK121 := n1_; have GW121 := n2_; have GE121 := n3_; clear n0_ n1_ n2_ n3_; clear hb hbox hg) | ((with_reducible refine gate_dst (N := 6) rfl ?_); refine box_event ?hg (N := 6) ?hd (cs := #[.int .u8 0, .int .u8 0, .int .u8 0, .int .u8 0, .int .u8 0, .int .u8 0, .int .u8 0, .int .u8 0, .int .u8 0]) (t := 43) ?hr ?_; (case hd => rfl); (case hg => rfl); (case hr => first | (go_simp; done) | (go_simp; rfl)); intro gb122 hg w5 hbox hb; have n0_ := Aside0.mk (blk_below (g := gb121) (o := .cells #[.int .u8 0, .int .u8 0, .int .u8 0, .int .u8 0, .int .u8 0, .int .u8 0, .int .u8 0, .int .u8 0, .int .u8 0] 43 (0, 0)) (by (with_reducible repeat (first | refine blk_drewN ?_ _ | refine blk_drew ?_ | refine blk_alloc ?_ _)); exact BK121.out) hb); have n1_ := Aside0.mk (below_step (by repeat (first | (with_reducible first | exact HB.out | apply below_alloc | apply pw_below_drewN | apply below_drew1 | refine below_set ?_ GE121.out) | exact HB.out)) hb); have n2_ := Aside0.mk (hbox); have n3_ := Aside0.mk ((by rw [hg]; exact (below_size (by repeat (first | (with_reducible first | exact HB.out | apply below_alloc | apply pw_below_drewN | apply below_drew1 | refine below_set ?_ GE121.out) | exact HB.out))) : w.heap.size ≤ gb122)); have n4_ := Aside0.mk ((by rw [hg]; exact (below_size (by repeat (first | (with_reducible first | exact HB.out | apply below_alloc | apply pw_below_drewN | apply below_drew1 | refine below_set ?_ GE121.out) | exact HB.out))) : w.heap.size ≤ gb122)); have n5_ := Aside0.mk ((by rw [hg]; exact Nat.ne_of_lt (blk_lt (g := gb121) (o := .cells #[.int .u8 0, .int .u8 0, .int .u8 0, .int .u8 0, .int .u8 0, .int .u8 0, .int .u8 0, .int .u8 0, .int .u8 0] 43 (0, 0)) (by (with_reducible repeat (first | refine blk_drewN ?_ _ | refine blk_drew ?_ | refine blk_alloc ?_ _)); exact BK121.out)) : gb121 ≠ gb122)); have n6_ := Aside0.mk ((by rw [hg]; exact Nat.ne_of_gt (blk_lt (g := gb121) (o := .cells #[.int .u8 0, .int .u8 0, .int .u8 0, .int .u8 0, .int .u8 0, .int .u8 0, .int .u8 0, .int .u8 0, .int .u8 0] 43 (0, 0)) (by (with_reducible repeat (first | refine blk_drewN ?_ _ | refine blk_drew ?_ | refine blk_alloc ?_ _)); exact BK121.out)) : gb122 ≠ gb121)); clear BK121; clear HB; have BK121 := n0_; have HB := n1_; have BK122 := n2_; have GW122 := n3_; have GE122 := n4_; have NB121_122 := n5_; have NB122_121 := n6_; clear n0_ n1_ n2_ n3_ n4_ n5_ n6_; clear hb hbox hg)); try go_wp2_with (first | ((with_reducible refine gate_dst (N := 4) rfl ?_); refine box_event ?hg (N := 4) ?hd (cs := #[.int .u8 0, .int .u8 0, .int .u8 0, .int .u8 0, .int .u8 0, .int .u8 0, .int .u8 0, .int .u8 0, .int .u8 0]) (t := 43) ?hr ?_; (case hd => rfl); (case hg => rfl); (case hr => first | (go_simp; done) | (go_simp; rfl)); intro gb121 hg w4 hbox hb; have n0_ := Aside0.mk (below_step (by repeat (first | (with_reducible first | exact HB.out | apply below_alloc | apply pw_below_drewN | apply below_drew1) | exact HB.out)) hb); have n1_ := Aside0.mk (hbox); have n2_ := Aside0.mk ((by rw [hg]; exact (below_size (by repeat (first | (with_reducible first | exact HB.out | apply below_alloc | apply pw_below_drewN | apply below_drew1) | exact HB.out))) : w.heap.size ≤ gb121)); have n3_ := Aside0.mk ((by rw [hg]; exact (below_size (by repeat (first | (with_reducible first | exact HB.out | apply below_alloc | apply pw_below_drewN | apply below_drew1) | exact HB.out))) : w.heap.size ≤ gb121)); clear HB; have HB := n0_; have BK121 := n1_; have GW121 := n2_; have GE121 := n3_; clear n0_ n1_ n2_ n3_; clear hb hbox hg) | ((with_reducible refine gate_dst (N := 6) rfl ?_); refine box_event ?hg (N := 6) ?hd (cs := #[.int .u8 0, .int .u8 0, .int .u8 0, .int .u8 0, .int .u8 0, .int .u8 0, .int .u8 0, .int .u8 0, .int .u8 0]) (t := 43) ?hr ?_; (case hd => rfl); (case hg => rfl); (case hr => first | (go_simp; done) | (go_simp; rfl)); intro gb122 hg w5 hbox hb; have n0_ := Aside0.mk (blk_below (g := gb121) (o := .cells #[.int .u8 0, .int .u8 0, .int .u8 0, .int .u8 0, .int .u8 0, .int .u8 0, .int .u8 0, .int .u8 0, .int .u8 0] 43 (0, 0)) (by (with_reducible repeat (first | refine blk_drewN ?_ _ | refine blk_drew ?_ | refine blk_alloc ?_ _)); exact BK121.out) hb); have n1_ := Aside0.mk (below_step (by repeat (first | (with_reducible first | exact HB.out | apply below_alloc | apply pw_below_drewN | apply below_drew1 | refine below_set ?_ GE121.out) | exact HB.out)) hb); have n2_ := Aside0.mk (hbox); have n3_ := Aside0.mk ((by rw [hg]; exact (below_size (by repeat (first | (with_reducible first | exact HB.out | apply below_alloc | apply pw_below_drewN | apply below_drew1 | refine below_set ?_ GE121.out) | exact HB.out))) : w.heap.size ≤ gb122)); have n4_ := Aside0.mk ((by rw [hg]; exact (below_size (by repeat (first | (with_reducible first | exact HB.out | apply below_alloc | apply pw_below_drewN | apply below_drew1 | refine below_set ?_ GE121.out) | exact HB.out))) : w.heap.size ≤ gb122)); have n5_ := Aside0.mk ((by rw [hg]; exact Nat.ne_of_lt (blk_lt (g := gb121) (o := .cells #[.int .u8 0, .int .u8 0, .int .u8 0, .int .u8 0, .int .u8 0, .int .u8 0, .int .u8 0, .int .u8 0, .int .u8 0] 43 (0, 0)) (by (with_reducible repeat (first | refine blk_drewN ?_ _ | refine blk_drew ?_ | refine blk_alloc ?_ _)); exact BK121.out)) : gb121 ≠ gb122)); have n6_ := Aside0.mk ((by rw [hg]; exact Nat.ne_of_gt (blk_lt (g := gb121) (o := .cells #[.int .u8 0, .int .u8 0, .int .u8 0, .int .u8 0, .int .u8 0, .int .u8 0, .int .u8 0, .int .u8 0, .int .u8 0] 43 (0, 0)) (by (with_reducible repeat (first | refine blk_drewN ?_ _ | refine blk_drew ?_ | refine blk_alloc ?_ _)); exact BK121.out)) : gb122 ≠ gb121)); clear BK121; clear HB; have BK121 := n0_; have HB := n1_; have BK122 := n2_; have GW122 := n3_; have GE122 := n4_; have NB121_122 := n5_; have NB122_121 := n6_; clear n0_ n1_ n2_ n3_ n4_ n5_ n6_; clear hb hbox hg)))
    go_loopg [12] k (fun kq v12 w' => ∃ (x12_1 : Int) (x122000_1 : Int) (x122001_1 : Int) (x122002_1 : Int) (x122003_1 : Int) (x122004_1 : Int) (x122005_1 : Int) (x122006_1 : Int) (x122007_1 : Int) (x122008_1 : Int) (x123000_1 : Int) (x123001_1 : Int) (x123002_1 : Int) (x123003_1 : Int) (x123004_1 : Int) (x123005_1 : Int) (x123006_1 : Int) (x123007_1 : Int) (x123008_1 : Int), v12 = .int .i64 x12_1 ∧ Aside0 (identity_read.l0 kq a0 a1 x12_1 x123000_1 x123001_1 x123002_1 x123003_1 x123004_1 x123005_1 x123006_1 x123007_1 x123008_1 = some (r1, r2, r3, r4, r5, r6, r7, r8, r9, r10)) ∧ Aside0 (kq ≤ k) ∧ Aside0 (w'.heap[gb121]? = some (.cells #[.int .u8 x122000_1, .int .u8 x122001_1, .int .u8 x122002_1, .int .u8 x122003_1, .int .u8 x122004_1, .int .u8 x122005_1, .int .u8 x122006_1, .int .u8 x122007_1, .int .u8 x122008_1] 43 (0, 0))) ∧ Aside0 (w'.heap[gb122]? = some (.cells #[.int .u8 x123000_1, .int .u8 x123001_1, .int .u8 x123002_1, .int .u8 x123003_1, .int .u8 x123004_1, .int .u8 x123005_1, .int .u8 x123006_1, .int .u8 x123007_1, .int .u8 x123008_1] 43 (0, 0))) ∧ Aside0 (Below w.heap.size w w'))
    case atStart => exact ⟨(0), (0), (0), (0), (0), (0), (0), (0), (0), (0), (0), (0), (0), (0), (0), (0), (0), (0), (0), (by first | rfl | (simp; done) | (simp [*]; done)), H', ⟨Nat.le_refl _⟩, ⟨by (with_reducible repeat (first | refine blk_drewN ?_ _ | refine blk_drew ?_ | refine blk_alloc ?_ _)); exact BK121.out⟩, ⟨by (with_reducible repeat (first | refine blk_drewN ?_ _ | refine blk_drew ?_ | refine blk_alloc ?_ _)); exact BK122.out⟩, ⟨by repeat (first | (with_reducible first | exact HB.out | apply below_alloc | apply pw_below_drewN | apply below_drew1 | refine below_set ?_ GE121.out | refine below_set ?_ GE122.out) | exact HB.out)⟩⟩
    case round =>
      clear H'
      try clear p2
      try clear c3
      try clear c3b0
      try clear c3b1
      obtain ⟨x12_1, x122000_1, x122001_1, x122002_1, x122003_1, x122004_1, x122005_1, x122006_1, x122007_1, x122008_1, x123000_1, x123001_1, x123002_1, x123003_1, x123004_1, x123005_1, x123006_1, x123007_1, x123008_1, rfl, HA, HK1, BK121, BK122, HB⟩ := hrel
      cases gk with
      | zero => exact absurd HA.out (by simp [identity_read.l0])
      | succ k1 =>
        have H := HA.out
        clear HA
        simp only [identity_read.l0] at H
        by_cases c6 : x12_1 < 9
        · rw [if_pos c6] at H
          have c6b0 : decide (x12_1 < 9) = true := decide_eq_true c6
          clear c6
          by_cases c7 : 0 ≤ x12_1
          · rw [if_pos c7] at H
            have c7b0 : decide (0 ≤ x12_1) = true := decide_eq_true c7
            clear c7
            by_cases c8 : x12_1 < (a0.size : Int)
            · rw [if_pos c8] at H
              have c8b0 : decide (x12_1 < (a0.size : Int)) = true := decide_eq_true c8
              clear c8
              replace H := Option.bind_eq_some_iff.mp H
              obtain ⟨t123, A100, H⟩ := H
              replace H : (if t123.size + a1.size ≤ 9223372036854775807 then ((strings_IndexByte.f (t123 ++ a1) (bt a0 x12_1)).bind fun t124 => (if t124 < 0 then (some (sx 0 x12_1 (bt a0 x12_1) x123000_1, sx 1 x12_1 (bt a0 x12_1) x123001_1, sx 2 x12_1 (bt a0 x12_1) x123002_1, sx 3 x12_1 (bt a0 x12_1) x123003_1, sx 4 x12_1 (bt a0 x12_1) x123004_1, sx 5 x12_1 (bt a0 x12_1) x123005_1, sx 6 x12_1 (bt a0 x12_1) x123006_1, sx 7 x12_1 (bt a0 x12_1) x123007_1, sx 8 x12_1 (bt a0 x12_1) x123008_1, false)) else (identity_read.l0 k1 a0 a1 (wrap64 (x12_1 + 1)) (sx 0 x12_1 (bt a0 x12_1) x123000_1) (sx 1 x12_1 (bt a0 x12_1) x123001_1) (sx 2 x12_1 (bt a0 x12_1) x123002_1) (sx 3 x12_1 (bt a0 x12_1) x123003_1) (sx 4 x12_1 (bt a0 x12_1) x123004_1) (sx 5 x12_1 (bt a0 x12_1) x123005_1) (sx 6 x12_1 (bt a0 x12_1) x123006_1) (sx 7 x12_1 (bt a0 x12_1) x123007_1) (sx 8 x12_1 (bt a0 x12_1) x123008_1)))) else (none)) = some (r1, r2, r3, r4, r5, r6, r7, r8, r9, r10) := H
              have A10 := Aside0.mk A100
              clear A100
              by_cases c11 : t123.size + a1.size ≤ 9223372036854775807
              · rw [if_pos c11] at H
                have c11b0 := eq_true c11
                have c11b1 : decide (t123.size + a1.size ≤ 9223372036854775807) = true := decide_eq_true c11
                try have c11b2 : (9223372036854775807 < t123.size + a1.size) = False := eq_false (Nat.not_lt.2 c11)
                replace H := Option.bind_eq_some_iff.mp H
                obtain ⟨t124, A130, H⟩ := H
                replace H : (if t124 < 0 then (some (sx 0 x12_1 (bt a0 x12_1) x123000_1, sx 1 x12_1 (bt a0 x12_1) x123001_1, sx 2 x12_1 (bt a0 x12_1) x123002_1, sx 3 x12_1 (bt a0 x12_1) x123003_1, sx 4 x12_1 (bt a0 x12_1) x123004_1, sx 5 x12_1 (bt a0 x12_1) x123005_1, sx 6 x12_1 (bt a0 x12_1) x123006_1, sx 7 x12_1 (bt a0 x12_1) x123007_1, sx 8 x12_1 (bt a0 x12_1) x123008_1, false)) else (identity_read.l0 k1 a0 a1 (wrap64 (x12_1 + 1)) (sx 0 x12_1 (bt a0 x12_1) x123000_1) (sx 1 x12_1 (bt a0 x12_1) x123001_1) (sx 2 x12_1 (bt a0 x12_1) x123002_1) (sx 3 x12_1 (bt a0 x12_1) x123003_1) (sx 4 x12_1 (bt a0 x12_1) x123004_1) (sx 5 x12_1 (bt a0 x12_1) x123005_1) (sx 6 x12_1 (bt a0 x12_1) x123006_1) (sx 7 x12_1 (bt a0 x12_1) x123007_1) (sx 8 x12_1 (bt a0 x12_1) x123008_1))) = some (r1, r2, r3, r4, r5, r6, r7, r8, r9, r10) := H
                have A13 := Aside0.mk A130
                clear A130
                by_cases c14 : t124 < 0
                · rw [if_pos c14] at H
                  have c14b0 : decide (t124 < 0) = true := decide_eq_true c14
                  clear c14
                  simp only [Option.some.injEq, Prod.mk.injEq] at H
                  obtain ⟨rfl, rfl, rfl, rfl, rfl, rfl, rfl, rfl, rfl, rfl⟩ := H
                  have p9 : 0 ≤ (x12_1 : Int) := of_decide_eq_true (by first | (with_reducible assumption) | assumption)
                  have q9 : x12_1 < (a0.size : Int) := of_decide_eq_true (by first | (with_reducible assumption) | assumption)
                  have hx9 := bt_at a0 x12_1
                  replace p9 := eq_true p9
                  replace q9 := eq_true q9
                  have hnb15 := NB122_121.out
                  have hnc15 := NB121_122.out
                  have hcz16_0 : wr.cell? ⟨gb122, 0, none⟩ = some (.int .u8 x123000_1) := (blk_cell BK122.out 0).trans rfl
                  have hcz16_1 : wr.cell? ⟨gb122, 1, none⟩ = some (.int .u8 x123001_1) := (blk_cell BK122.out 1).trans rfl
                  have hcz16_2 : wr.cell? ⟨gb122, 2, none⟩ = some (.int .u8 x123002_1) := (blk_cell BK122.out 2).trans rfl
                  have hcz16_3 : wr.cell? ⟨gb122, 3, none⟩ = some (.int .u8 x123003_1) := (blk_cell BK122.out 3).trans rfl
                  have hcz16_4 : wr.cell? ⟨gb122, 4, none⟩ = some (.int .u8 x123004_1) := (blk_cell BK122.out 4).trans rfl
                  have hcz16_5 : wr.cell? ⟨gb122, 5, none⟩ = some (.int .u8 x123005_1) := (blk_cell BK122.out 5).trans rfl
                  have hcz16_6 : wr.cell? ⟨gb122, 6, none⟩ = some (.int .u8 x123006_1) := (blk_cell BK122.out 6).trans rfl
                  have hcz16_7 : wr.cell? ⟨gb122, 7, none⟩ = some (.int .u8 x123007_1) := (blk_cell BK122.out 7).trans rfl
                  have hcz16_8 : wr.cell? ⟨gb122, 8, none⟩ = some (.int .u8 x123008_1) := (blk_cell BK122.out 8).trans rfl
                  have hfz16_0 := blk_frozen BK122.out 0
                  have hfz16_1 := blk_frozen BK122.out 1
                  have hfz16_2 := blk_frozen BK122.out 2
                  have hfz16_3 := blk_frozen BK122.out 3
                  have hfz16_4 := blk_frozen BK122.out 4
                  have hfz16_5 := blk_frozen BK122.out 5
                  have hfz16_6 := blk_frozen BK122.out 6
                  have hfz16_7 := blk_frozen BK122.out 7
                  have hfz16_8 := blk_frozen BK122.out 8
                  have hy17 := blk_frozen BK122.out (x12_1).toNat
                  have p18 : 0 ≤ (x12_1 : Int) := of_decide_eq_true (by first | (with_reducible assumption) | assumption)
                  have q18 : (x12_1 : Int) < 9 := of_decide_eq_true (by first | (with_reducible assumption) | assumption)
                  have hx18 : wr.cell? ⟨gb122, (x12_1).toNat, none⟩ = some (.int .u8 (ix9 x12_1 x123000_1 x123001_1 x123002_1 x123003_1 x123004_1 x123005_1 x123006_1 x123007_1 x123008_1)) := ixcell9 BK122.out (decide_eq_true p18) (decide_eq_true (Int.lt_of_lt_of_le q18 (by decide)))
                  replace p18 := eq_true p18
                  replace q18 := eq_true q18
                  go_wp2_with (first | ((with_reducible refine gate_store (t := 5) (p := 19) rfl ?_); (try (rw [drewN_self wr]; generalize hq_ : World.drewN wr _ = wr; have n0_ := Aside0.mk (blk_at hq_ BK121.out); have n1_ := Aside0.mk (blk_at hq_ BK122.out); have n2_ := Aside0.mk (below_at hq_ HB.out); clear hq_ BK121 BK122 HB; have BK121 := n0_; have BK122 := n1_; have HB := n2_; clear n0_ n1_ n2_)); refine store_event (t := 5) (p := 19) (v := ?vo_w19) (w1 := (wr.setCell ⟨gb122, (x12_1 : Int).toNat, none⟩ (.int .u8 (bt a0 x12_1)))) ?hg ?ho ?hn ?hr ?_; (case ho => rfl); (case hg => rfl); (case hn => rfl); (case hr => first | (go_simp; done) | (go_simp; rfl)); intro w19 hw; have n0_ : Aside0 (w19.heap[gb121]? = some (.cells #[.int .u8 x122000_1, .int .u8 x122001_1, .int .u8 x122002_1, .int .u8 x122003_1, .int .u8 x122004_1, .int .u8 x122005_1, .int .u8 x122006_1, .int .u8 x122007_1, .int .u8 x122008_1] 43 (0, 0))) := ⟨(by rw [hw]; exact (by (with_reducible repeat (first | refine blk_drewN ?_ _ | refine blk_drew ?_ | refine blk_alloc ?_ _)); refine blk_far ?_ NB121_122.out _; (with_reducible repeat (first | refine blk_drewN ?_ _ | refine blk_drew ?_ | refine blk_alloc ?_ _)); exact BK121.out))⟩; have n1_ : Aside0 (w19.heap[gb122]? = some (.cells #[.int .u8 (sx 0 x12_1 (bt a0 x12_1) x123000_1), .int .u8 (sx 1 x12_1 (bt a0 x12_1) x123001_1), .int .u8 (sx 2 x12_1 (bt a0 x12_1) x123002_1), .int .u8 (sx 3 x12_1 (bt a0 x12_1) x123003_1), .int .u8 (sx 4 x12_1 (bt a0 x12_1) x123004_1), .int .u8 (sx 5 x12_1 (bt a0 x12_1) x123005_1), .int .u8 (sx 6 x12_1 (bt a0 x12_1) x123006_1), .int .u8 (sx 7 x12_1 (bt a0 x12_1) x123007_1), .int .u8 (sx 8 x12_1 (bt a0 x12_1) x123008_1)] 43 (0, 0))) := ⟨(by rw [hw]; exact (by (with_reducible repeat (first | refine blk_drewN ?_ _ | refine blk_drew ?_ | refine blk_alloc ?_ _)); refine blk_setv9 (by first | assumption | decide | omega) (by first | assumption | decide | omega) ?_ _; (with_reducible repeat (first | refine blk_drewN ?_ _ | refine blk_drew ?_ | refine blk_alloc ?_ _)); exact BK122.out))⟩; have n2_ : Aside0 (Below w.heap.size w w19) := ⟨(by rw [hw]; exact (by repeat (first | (with_reducible first | exact HB.out | apply below_alloc | apply pw_below_drewN | apply below_drew1 | refine below_set ?_ GE121.out | refine below_set ?_ GE122.out) | exact HB.out)))⟩; clear hw; clear BK121; clear BK122; clear HB; have BK121 := n0_; have BK122 := n1_; have HB := n2_; clear n0_ n1_ n2_) | (go_at_call 41; (with_reducible refine (identity_at.calls x12_1 t123 _ A10.out).mono ?_); rintro e w' ⟨rfl, ⟨nd, rfl⟩⟩; (try first | exact ⟨rfl, _, World.drewN_drewN _ _ _⟩ | exact ⟨rfl, _, Eq.trans (World.drewN_drewN _ _ _) (congrArg (World.drewN _) (Nat.add_assoc _ _ _))⟩); have p12 : 0 ≤ (x12_1 : Int) := of_decide_eq_true (by first | (with_reducible assumption) | assumption); have q12 : x12_1 < (a0.size : Int) := of_decide_eq_true (by first | (with_reducible assumption) | assumption); have hx12 := bt_at a0 x12_1; replace p12 := eq_true p12; replace q12 := eq_true q12) | (go_at_call 34; (with_reducible refine (strings_IndexByte.calls (t123 ++ a1) (bt a0 x12_1) t124 _ A13.out).mono ?_); rintro e w' ⟨rfl, ⟨nd, rfl⟩⟩; (try first | exact ⟨rfl, _, World.drewN_drewN _ _ _⟩ | exact ⟨rfl, _, Eq.trans (World.drewN_drewN _ _ _) (congrArg (World.drewN _) (Nat.add_assoc _ _ _))⟩); have hcz20_0 : w19.cell? ⟨gb122, 0, none⟩ = some (.int .u8 (sx 0 x12_1 (bt a0 x12_1) x123000_1)) := (blk_cell BK122.out 0).trans rfl; have hcz20_1 : w19.cell? ⟨gb122, 1, none⟩ = some (.int .u8 (sx 1 x12_1 (bt a0 x12_1) x123001_1)) := (blk_cell BK122.out 1).trans rfl; have hcz20_2 : w19.cell? ⟨gb122, 2, none⟩ = some (.int .u8 (sx 2 x12_1 (bt a0 x12_1) x123002_1)) := (blk_cell BK122.out 2).trans rfl; have hcz20_3 : w19.cell? ⟨gb122, 3, none⟩ = some (.int .u8 (sx 3 x12_1 (bt a0 x12_1) x123003_1)) := (blk_cell BK122.out 3).trans rfl; have hcz20_4 : w19.cell? ⟨gb122, 4, none⟩ = some (.int .u8 (sx 4 x12_1 (bt a0 x12_1) x123004_1)) := (blk_cell BK122.out 4).trans rfl; have hcz20_5 : w19.cell? ⟨gb122, 5, none⟩ = some (.int .u8 (sx 5 x12_1 (bt a0 x12_1) x123005_1)) := (blk_cell BK122.out 5).trans rfl; have hcz20_6 : w19.cell? ⟨gb122, 6, none⟩ = some (.int .u8 (sx 6 x12_1 (bt a0 x12_1) x123006_1)) := (blk_cell BK122.out 6).trans rfl; have hcz20_7 : w19.cell? ⟨gb122, 7, none⟩ = some (.int .u8 (sx 7 x12_1 (bt a0 x12_1) x123007_1)) := (blk_cell BK122.out 7).trans rfl; have hcz20_8 : w19.cell? ⟨gb122, 8, none⟩ = some (.int .u8 (sx 8 x12_1 (bt a0 x12_1) x123008_1)) := (blk_cell BK122.out 8).trans rfl; have hfz20_0 := blk_frozen BK122.out 0; have hfz20_1 := blk_frozen BK122.out 1; have hfz20_2 := blk_frozen BK122.out 2; have hfz20_3 := blk_frozen BK122.out 3; have hfz20_4 := blk_frozen BK122.out 4; have hfz20_5 := blk_frozen BK122.out 5; have hfz20_6 := blk_frozen BK122.out 6; have hfz20_7 := blk_frozen BK122.out 7; have hfz20_8 := blk_frozen BK122.out 8; have hcz21_0 : w19.cell? ⟨gb121, 0, none⟩ = some (.int .u8 x122000_1) := (blk_cell BK121.out 0).trans rfl; have hcz21_1 : w19.cell? ⟨gb121, 1, none⟩ = some (.int .u8 x122001_1) := (blk_cell BK121.out 1).trans rfl; have hcz21_2 : w19.cell? ⟨gb121, 2, none⟩ = some (.int .u8 x122002_1) := (blk_cell BK121.out 2).trans rfl; have hcz21_3 : w19.cell? ⟨gb121, 3, none⟩ = some (.int .u8 x122003_1) := (blk_cell BK121.out 3).trans rfl; have hcz21_4 : w19.cell? ⟨gb121, 4, none⟩ = some (.int .u8 x122004_1) := (blk_cell BK121.out 4).trans rfl; have hcz21_5 : w19.cell? ⟨gb121, 5, none⟩ = some (.int .u8 x122005_1) := (blk_cell BK121.out 5).trans rfl; have hcz21_6 : w19.cell? ⟨gb121, 6, none⟩ = some (.int .u8 x122006_1) := (blk_cell BK121.out 6).trans rfl; have hcz21_7 : w19.cell? ⟨gb121, 7, none⟩ = some (.int .u8 x122007_1) := (blk_cell BK121.out 7).trans rfl; have hcz21_8 : w19.cell? ⟨gb121, 8, none⟩ = some (.int .u8 x122008_1) := (blk_cell BK121.out 8).trans rfl; have hfz21_0 := blk_frozen BK121.out 0; have hfz21_1 := blk_frozen BK121.out 1; have hfz21_2 := blk_frozen BK121.out 2; have hfz21_3 := blk_frozen BK121.out 3; have hfz21_4 := blk_frozen BK121.out 4; have hfz21_5 := blk_frozen BK121.out 5; have hfz21_6 := blk_frozen BK121.out 6; have hfz21_7 := blk_frozen BK121.out 7; have hfz21_8 := blk_frozen BK121.out 8))
                  repeat (go_quiet (first | ((with_reducible refine gate_store (t := 5) (p := 19) rfl ?_); (try (rw [drewN_self wr]; generalize hq_ : World.drewN wr _ = wr; have n0_ := Aside0.mk (blk_at hq_ BK121.out); have n1_ := Aside0.mk (blk_at hq_ BK122.out); have n2_ := Aside0.mk (below_at hq_ HB.out); clear hq_ BK121 BK122 HB; have BK121 := n0_; have BK122 := n1_; have HB := n2_; clear n0_ n1_ n2_)); refine store_event (t := 5) (p := 19) (v := ?vo_w19) (w1 := (wr.setCell ⟨gb122, (x12_1 : Int).toNat, none⟩ (.int .u8 (bt a0 x12_1)))) ?hg ?ho ?hn ?hr ?_; (case ho => rfl); (case hg => rfl); (case hn => rfl); (case hr => first | (go_simp; done) | (go_simp; rfl)); intro w19 hw; have n0_ : Aside0 (w19.heap[gb121]? = some (.cells #[.int .u8 x122000_1, .int .u8 x122001_1, .int .u8 x122002_1, .int .u8 x122003_1, .int .u8 x122004_1, .int .u8 x122005_1, .int .u8 x122006_1, .int .u8 x122007_1, .int .u8 x122008_1] 43 (0, 0))) := ⟨(by rw [hw]; exact (by (with_reducible repeat (first | refine blk_drewN ?_ _ | refine blk_drew ?_ | refine blk_alloc ?_ _)); refine blk_far ?_ NB121_122.out _; (with_reducible repeat (first | refine blk_drewN ?_ _ | refine blk_drew ?_ | refine blk_alloc ?_ _)); exact BK121.out))⟩; have n1_ : Aside0 (w19.heap[gb122]? = some (.cells #[.int .u8 (sx 0 x12_1 (bt a0 x12_1) x123000_1), .int .u8 (sx 1 x12_1 (bt a0 x12_1) x123001_1), .int .u8 (sx 2 x12_1 (bt a0 x12_1) x123002_1), .int .u8 (sx 3 x12_1 (bt a0 x12_1) x123003_1), .int .u8 (sx 4 x12_1 (bt a0 x12_1) x123004_1), .int .u8 (sx 5 x12_1 (bt a0 x12_1) x123005_1), .int .u8 (sx 6 x12_1 (bt a0 x12_1) x123006_1), .int .u8 (sx 7 x12_1 (bt a0 x12_1) x123007_1), .int .u8 (sx 8 x12_1 (bt a0 x12_1) x123008_1)] 43 (0, 0))) := ⟨(by rw [hw]; exact (by (with_reducible repeat (first | refine blk_drewN ?_ _ | refine blk_drew ?_ | refine blk_alloc ?_ _)); refine blk_setv9 (by first | assumption | decide | omega) (by first | assumption | decide | omega) ?_ _; (with_reducible repeat (first | refine blk_drewN ?_ _ | refine blk_drew ?_ | refine blk_alloc ?_ _)); exact BK122.out))⟩; have n2_ : Aside0 (Below w.heap.size w w19) := ⟨(by rw [hw]; exact (by repeat (first | (with_reducible first | exact HB.out | apply below_alloc | apply pw_below_drewN | apply below_drew1 | refine below_set ?_ GE121.out | refine below_set ?_ GE122.out) | exact HB.out)))⟩; clear hw; clear BK121; clear BK122; clear HB; have BK121 := n0_; have BK122 := n1_; have HB := n2_; clear n0_ n1_ n2_) | (go_at_call 41; (with_reducible refine (identity_at.calls x12_1 t123 _ A10.out).mono ?_); rintro e w' ⟨rfl, ⟨nd, rfl⟩⟩; (try first | exact ⟨rfl, _, World.drewN_drewN _ _ _⟩ | exact ⟨rfl, _, Eq.trans (World.drewN_drewN _ _ _) (congrArg (World.drewN _) (Nat.add_assoc _ _ _))⟩); have p12 : 0 ≤ (x12_1 : Int) := of_decide_eq_true (by first | (with_reducible assumption) | assumption); have q12 : x12_1 < (a0.size : Int) := of_decide_eq_true (by first | (with_reducible assumption) | assumption); have hx12 := bt_at a0 x12_1; replace p12 := eq_true p12; replace q12 := eq_true q12) | (go_at_call 34; (with_reducible refine (strings_IndexByte.calls (t123 ++ a1) (bt a0 x12_1) t124 _ A13.out).mono ?_); rintro e w' ⟨rfl, ⟨nd, rfl⟩⟩; (try first | exact ⟨rfl, _, World.drewN_drewN _ _ _⟩ | exact ⟨rfl, _, Eq.trans (World.drewN_drewN _ _ _) (congrArg (World.drewN _) (Nat.add_assoc _ _ _))⟩); have hcz20_0 : w19.cell? ⟨gb122, 0, none⟩ = some (.int .u8 (sx 0 x12_1 (bt a0 x12_1) x123000_1)) := (blk_cell BK122.out 0).trans rfl; have hcz20_1 : w19.cell? ⟨gb122, 1, none⟩ = some (.int .u8 (sx 1 x12_1 (bt a0 x12_1) x123001_1)) := (blk_cell BK122.out 1).trans rfl; have hcz20_2 : w19.cell? ⟨gb122, 2, none⟩ = some (.int .u8 (sx 2 x12_1 (bt a0 x12_1) x123002_1)) := (blk_cell BK122.out 2).trans rfl; have hcz20_3 : w19.cell? ⟨gb122, 3, none⟩ = some (.int .u8 (sx 3 x12_1 (bt a0 x12_1) x123003_1)) := (blk_cell BK122.out 3).trans rfl; have hcz20_4 : w19.cell? ⟨gb122, 4, none⟩ = some (.int .u8 (sx 4 x12_1 (bt a0 x12_1) x123004_1)) := (blk_cell BK122.out 4).trans rfl; have hcz20_5 : w19.cell? ⟨gb122, 5, none⟩ = some (.int .u8 (sx 5 x12_1 (bt a0 x12_1) x123005_1)) := (blk_cell BK122.out 5).trans rfl; have hcz20_6 : w19.cell? ⟨gb122, 6, none⟩ = some (.int .u8 (sx 6 x12_1 (bt a0 x12_1) x123006_1)) := (blk_cell BK122.out 6).trans rfl; have hcz20_7 : w19.cell? ⟨gb122, 7, none⟩ = some (.int .u8 (sx 7 x12_1 (bt a0 x12_1) x123007_1)) := (blk_cell BK122.out 7).trans rfl; have hcz20_8 : w19.cell? ⟨gb122, 8, none⟩ = some (.int .u8 (sx 8 x12_1 (bt a0 x12_1) x123008_1)) := (blk_cell BK122.out 8).trans rfl; have hfz20_0 := blk_frozen BK122.out 0; have hfz20_1 := blk_frozen BK122.out 1; have hfz20_2 := blk_frozen BK122.out 2; have hfz20_3 := blk_frozen BK122.out 3; have hfz20_4 := blk_frozen BK122.out 4; have hfz20_5 := blk_frozen BK122.out 5; have hfz20_6 := blk_frozen BK122.out 6; have hfz20_7 := blk_frozen BK122.out 7; have hfz20_8 := blk_frozen BK122.out 8; have hcz21_0 : w19.cell? ⟨gb121, 0, none⟩ = some (.int .u8 x122000_1) := (blk_cell BK121.out 0).trans rfl; have hcz21_1 : w19.cell? ⟨gb121, 1, none⟩ = some (.int .u8 x122001_1) := (blk_cell BK121.out 1).trans rfl; have hcz21_2 : w19.cell? ⟨gb121, 2, none⟩ = some (.int .u8 x122002_1) := (blk_cell BK121.out 2).trans rfl; have hcz21_3 : w19.cell? ⟨gb121, 3, none⟩ = some (.int .u8 x122003_1) := (blk_cell BK121.out 3).trans rfl; have hcz21_4 : w19.cell? ⟨gb121, 4, none⟩ = some (.int .u8 x122004_1) := (blk_cell BK121.out 4).trans rfl; have hcz21_5 : w19.cell? ⟨gb121, 5, none⟩ = some (.int .u8 x122005_1) := (blk_cell BK121.out 5).trans rfl; have hcz21_6 : w19.cell? ⟨gb121, 6, none⟩ = some (.int .u8 x122006_1) := (blk_cell BK121.out 6).trans rfl; have hcz21_7 : w19.cell? ⟨gb121, 7, none⟩ = some (.int .u8 x122007_1) := (blk_cell BK121.out 7).trans rfl; have hcz21_8 : w19.cell? ⟨gb121, 8, none⟩ = some (.int .u8 x122008_1) := (blk_cell BK121.out 8).trans rfl; have hfz21_0 := blk_frozen BK121.out 0; have hfz21_1 := blk_frozen BK121.out 1; have hfz21_2 := blk_frozen BK121.out 2; have hfz21_3 := blk_frozen BK121.out 3; have hfz21_4 := blk_frozen BK121.out 4; have hfz21_5 := blk_frozen BK121.out 5; have hfz21_6 := blk_frozen BK121.out 6; have hfz21_7 := blk_frozen BK121.out 7; have hfz21_8 := blk_frozen BK121.out 8)); try go_wp2_with (first | ((with_reducible refine gate_store (t := 5) (p := 19) rfl ?_); (try (rw [drewN_self wr]; generalize hq_ : World.drewN wr _ = wr; have n0_ := Aside0.mk (blk_at hq_ BK121.out); have n1_ := Aside0.mk (blk_at hq_ BK122.out); have n2_ := Aside0.mk (below_at hq_ HB.out); clear hq_ BK121 BK122 HB; have BK121 := n0_; have BK122 := n1_; have HB := n2_; clear n0_ n1_ n2_)); refine store_event (t := 5) (p := 19) (v := ?vo_w19) (w1 := (wr.setCell ⟨gb122, (x12_1 : Int).toNat, none⟩ (.int .u8 (bt a0 x12_1)))) ?hg ?ho ?hn ?hr ?_; (case ho => rfl); (case hg => rfl); (case hn => rfl); (case hr => first | (go_simp; done) | (go_simp; rfl)); intro w19 hw; have n0_ : Aside0 (w19.heap[gb121]? = some (.cells #[.int .u8 x122000_1, .int .u8 x122001_1, .int .u8 x122002_1, .int .u8 x122003_1, .int .u8 x122004_1, .int .u8 x122005_1, .int .u8 x122006_1, .int .u8 x122007_1, .int .u8 x122008_1] 43 (0, 0))) := ⟨(by rw [hw]; exact (by (with_reducible repeat (first | refine blk_drewN ?_ _ | refine blk_drew ?_ | refine blk_alloc ?_ _)); refine blk_far ?_ NB121_122.out _; (with_reducible repeat (first | refine blk_drewN ?_ _ | refine blk_drew ?_ | refine blk_alloc ?_ _)); exact BK121.out))⟩; have n1_ : Aside0 (w19.heap[gb122]? = some (.cells #[.int .u8 (sx 0 x12_1 (bt a0 x12_1) x123000_1), .int .u8 (sx 1 x12_1 (bt a0 x12_1) x123001_1), .int .u8 (sx 2 x12_1 (bt a0 x12_1) x123002_1), .int .u8 (sx 3 x12_1 (bt a0 x12_1) x123003_1), .int .u8 (sx 4 x12_1 (bt a0 x12_1) x123004_1), .int .u8 (sx 5 x12_1 (bt a0 x12_1) x123005_1), .int .u8 (sx 6 x12_1 (bt a0 x12_1) x123006_1), .int .u8 (sx 7 x12_1 (bt a0 x12_1) x123007_1), .int .u8 (sx 8 x12_1 (bt a0 x12_1) x123008_1)] 43 (0, 0))) := ⟨(by rw [hw]; exact (by (with_reducible repeat (first | refine blk_drewN ?_ _ | refine blk_drew ?_ | refine blk_alloc ?_ _)); refine blk_setv9 (by first | assumption | decide | omega) (by first | assumption | decide | omega) ?_ _; (with_reducible repeat (first | refine blk_drewN ?_ _ | refine blk_drew ?_ | refine blk_alloc ?_ _)); exact BK122.out))⟩; have n2_ : Aside0 (Below w.heap.size w w19) := ⟨(by rw [hw]; exact (by repeat (first | (with_reducible first | exact HB.out | apply below_alloc | apply pw_below_drewN | apply below_drew1 | refine below_set ?_ GE121.out | refine below_set ?_ GE122.out) | exact HB.out)))⟩; clear hw; clear BK121; clear BK122; clear HB; have BK121 := n0_; have BK122 := n1_; have HB := n2_; clear n0_ n1_ n2_) | (go_at_call 41; (with_reducible refine (identity_at.calls x12_1 t123 _ A10.out).mono ?_); rintro e w' ⟨rfl, ⟨nd, rfl⟩⟩; (try first | exact ⟨rfl, _, World.drewN_drewN _ _ _⟩ | exact ⟨rfl, _, Eq.trans (World.drewN_drewN _ _ _) (congrArg (World.drewN _) (Nat.add_assoc _ _ _))⟩); have p12 : 0 ≤ (x12_1 : Int) := of_decide_eq_true (by first | (with_reducible assumption) | assumption); have q12 : x12_1 < (a0.size : Int) := of_decide_eq_true (by first | (with_reducible assumption) | assumption); have hx12 := bt_at a0 x12_1; replace p12 := eq_true p12; replace q12 := eq_true q12) | (go_at_call 34; (with_reducible refine (strings_IndexByte.calls (t123 ++ a1) (bt a0 x12_1) t124 _ A13.out).mono ?_); rintro e w' ⟨rfl, ⟨nd, rfl⟩⟩; (try first | exact ⟨rfl, _, World.drewN_drewN _ _ _⟩ | exact ⟨rfl, _, Eq.trans (World.drewN_drewN _ _ _) (congrArg (World.drewN _) (Nat.add_assoc _ _ _))⟩); have hcz20_0 : w19.cell? ⟨gb122, 0, none⟩ = some (.int .u8 (sx 0 x12_1 (bt a0 x12_1) x123000_1)) := (blk_cell BK122.out 0).trans rfl; have hcz20_1 : w19.cell? ⟨gb122, 1, none⟩ = some (.int .u8 (sx 1 x12_1 (bt a0 x12_1) x123001_1)) := (blk_cell BK122.out 1).trans rfl; have hcz20_2 : w19.cell? ⟨gb122, 2, none⟩ = some (.int .u8 (sx 2 x12_1 (bt a0 x12_1) x123002_1)) := (blk_cell BK122.out 2).trans rfl; have hcz20_3 : w19.cell? ⟨gb122, 3, none⟩ = some (.int .u8 (sx 3 x12_1 (bt a0 x12_1) x123003_1)) := (blk_cell BK122.out 3).trans rfl; have hcz20_4 : w19.cell? ⟨gb122, 4, none⟩ = some (.int .u8 (sx 4 x12_1 (bt a0 x12_1) x123004_1)) := (blk_cell BK122.out 4).trans rfl; have hcz20_5 : w19.cell? ⟨gb122, 5, none⟩ = some (.int .u8 (sx 5 x12_1 (bt a0 x12_1) x123005_1)) := (blk_cell BK122.out 5).trans rfl; have hcz20_6 : w19.cell? ⟨gb122, 6, none⟩ = some (.int .u8 (sx 6 x12_1 (bt a0 x12_1) x123006_1)) := (blk_cell BK122.out 6).trans rfl; have hcz20_7 : w19.cell? ⟨gb122, 7, none⟩ = some (.int .u8 (sx 7 x12_1 (bt a0 x12_1) x123007_1)) := (blk_cell BK122.out 7).trans rfl; have hcz20_8 : w19.cell? ⟨gb122, 8, none⟩ = some (.int .u8 (sx 8 x12_1 (bt a0 x12_1) x123008_1)) := (blk_cell BK122.out 8).trans rfl; have hfz20_0 := blk_frozen BK122.out 0; have hfz20_1 := blk_frozen BK122.out 1; have hfz20_2 := blk_frozen BK122.out 2; have hfz20_3 := blk_frozen BK122.out 3; have hfz20_4 := blk_frozen BK122.out 4; have hfz20_5 := blk_frozen BK122.out 5; have hfz20_6 := blk_frozen BK122.out 6; have hfz20_7 := blk_frozen BK122.out 7; have hfz20_8 := blk_frozen BK122.out 8; have hcz21_0 : w19.cell? ⟨gb121, 0, none⟩ = some (.int .u8 x122000_1) := (blk_cell BK121.out 0).trans rfl; have hcz21_1 : w19.cell? ⟨gb121, 1, none⟩ = some (.int .u8 x122001_1) := (blk_cell BK121.out 1).trans rfl; have hcz21_2 : w19.cell? ⟨gb121, 2, none⟩ = some (.int .u8 x122002_1) := (blk_cell BK121.out 2).trans rfl; have hcz21_3 : w19.cell? ⟨gb121, 3, none⟩ = some (.int .u8 x122003_1) := (blk_cell BK121.out 3).trans rfl; have hcz21_4 : w19.cell? ⟨gb121, 4, none⟩ = some (.int .u8 x122004_1) := (blk_cell BK121.out 4).trans rfl; have hcz21_5 : w19.cell? ⟨gb121, 5, none⟩ = some (.int .u8 x122005_1) := (blk_cell BK121.out 5).trans rfl; have hcz21_6 : w19.cell? ⟨gb121, 6, none⟩ = some (.int .u8 x122006_1) := (blk_cell BK121.out 6).trans rfl; have hcz21_7 : w19.cell? ⟨gb121, 7, none⟩ = some (.int .u8 x122007_1) := (blk_cell BK121.out 7).trans rfl; have hcz21_8 : w19.cell? ⟨gb121, 8, none⟩ = some (.int .u8 x122008_1) := (blk_cell BK121.out 8).trans rfl; have hfz21_0 := blk_frozen BK121.out 0; have hfz21_1 := blk_frozen BK121.out 1; have hfz21_2 := blk_frozen BK121.out 2; have hfz21_3 := blk_frozen BK121.out 3; have hfz21_4 := blk_frozen BK121.out 4; have hfz21_5 := blk_frozen BK121.out 5; have hfz21_6 := blk_frozen BK121.out 6; have hfz21_7 := blk_frozen BK121.out 7; have hfz21_8 := blk_frozen BK121.out 8)))
                  refine bodyPost_ret (results_ct rfl _ _ gb121 43 #[.int .u8 (sx 0 x12_1 (bt a0 x12_1) x123000_1), .int .u8 (sx 1 x12_1 (bt a0 x12_1) x123001_1), .int .u8 (sx 2 x12_1 (bt a0 x12_1) x123002_1), .int .u8 (sx 3 x12_1 (bt a0 x12_1) x123003_1), .int .u8 (sx 4 x12_1 (bt a0 x12_1) x123004_1), .int .u8 (sx 5 x12_1 (bt a0 x12_1) x123005_1), .int .u8 (sx 6 x12_1 (bt a0 x12_1) x123006_1), .int .u8 (sx 7 x12_1 (bt a0 x12_1) x123007_1), .int .u8 (sx 8 x12_1 (bt a0 x12_1) x123008_1)] (0, 0) _ rfl (by (with_reducible repeat (first | refine blk_drewN ?_ _ | refine blk_drew ?_ | refine blk_alloc ?_ _)); refine blk_put (cs := #[.int .u8 (sx 0 x12_1 (bt a0 x12_1) x123000_1), .int .u8 (sx 1 x12_1 (bt a0 x12_1) x123001_1), .int .u8 (sx 2 x12_1 (bt a0 x12_1) x123002_1), .int .u8 (sx 3 x12_1 (bt a0 x12_1) x123003_1), .int .u8 (sx 4 x12_1 (bt a0 x12_1) x123004_1), .int .u8 (sx 5 x12_1 (bt a0 x12_1) x123005_1), .int .u8 (sx 6 x12_1 (bt a0 x12_1) x123006_1), .int .u8 (sx 7 x12_1 (bt a0 x12_1) x123007_1), .int .u8 x122008_1]) ?_ 8 _ rfl; (with_reducible repeat (first | refine blk_drewN ?_ _ | refine blk_drew ?_ | refine blk_alloc ?_ _)); refine blk_put (cs := #[.int .u8 (sx 0 x12_1 (bt a0 x12_1) x123000_1), .int .u8 (sx 1 x12_1 (bt a0 x12_1) x123001_1), .int .u8 (sx 2 x12_1 (bt a0 x12_1) x123002_1), .int .u8 (sx 3 x12_1 (bt a0 x12_1) x123003_1), .int .u8 (sx 4 x12_1 (bt a0 x12_1) x123004_1), .int .u8 (sx 5 x12_1 (bt a0 x12_1) x123005_1), .int .u8 (sx 6 x12_1 (bt a0 x12_1) x123006_1), .int .u8 x122007_1, .int .u8 x122008_1]) ?_ 7 _ rfl; (with_reducible repeat (first | refine blk_drewN ?_ _ | refine blk_drew ?_ | refine blk_alloc ?_ _)); refine blk_put (cs := #[.int .u8 (sx 0 x12_1 (bt a0 x12_1) x123000_1), .int .u8 (sx 1 x12_1 (bt a0 x12_1) x123001_1), .int .u8 (sx 2 x12_1 (bt a0 x12_1) x123002_1), .int .u8 (sx 3 x12_1 (bt a0 x12_1) x123003_1), .int .u8 (sx 4 x12_1 (bt a0 x12_1) x123004_1), .int .u8 (sx 5 x12_1 (bt a0 x12_1) x123005_1), .int .u8 x122006_1, .int .u8 x122007_1, .int .u8 x122008_1]) ?_ 6 _ rfl; (with_reducible repeat (first | refine blk_drewN ?_ _ | refine blk_drew ?_ | refine blk_alloc ?_ _)); refine blk_put (cs := #[.int .u8 (sx 0 x12_1 (bt a0 x12_1) x123000_1), .int .u8 (sx 1 x12_1 (bt a0 x12_1) x123001_1), .int .u8 (sx 2 x12_1 (bt a0 x12_1) x123002_1), .int .u8 (sx 3 x12_1 (bt a0 x12_1) x123003_1), .int .u8 (sx 4 x12_1 (bt a0 x12_1) x123004_1), .int .u8 x122005_1, .int .u8 x122006_1, .int .u8 x122007_1, .int .u8 x122008_1]) ?_ 5 _ rfl; (with_reducible repeat (first | refine blk_drewN ?_ _ | refine blk_drew ?_ | refine blk_alloc ?_ _)); refine blk_put (cs := #[.int .u8 (sx 0 x12_1 (bt a0 x12_1) x123000_1), .int .u8 (sx 1 x12_1 (bt a0 x12_1) x123001_1), .int .u8 (sx 2 x12_1 (bt a0 x12_1) x123002_1), .int .u8 (sx 3 x12_1 (bt a0 x12_1) x123003_1), .int .u8 x122004_1, .int .u8 x122005_1, .int .u8 x122006_1, .int .u8 x122007_1, .int .u8 x122008_1]) ?_ 4 _ rfl; (with_reducible repeat (first | refine blk_drewN ?_ _ | refine blk_drew ?_ | refine blk_alloc ?_ _)); refine blk_put (cs := #[.int .u8 (sx 0 x12_1 (bt a0 x12_1) x123000_1), .int .u8 (sx 1 x12_1 (bt a0 x12_1) x123001_1), .int .u8 (sx 2 x12_1 (bt a0 x12_1) x123002_1), .int .u8 x122003_1, .int .u8 x122004_1, .int .u8 x122005_1, .int .u8 x122006_1, .int .u8 x122007_1, .int .u8 x122008_1]) ?_ 3 _ rfl; (with_reducible repeat (first | refine blk_drewN ?_ _ | refine blk_drew ?_ | refine blk_alloc ?_ _)); refine blk_put (cs := #[.int .u8 (sx 0 x12_1 (bt a0 x12_1) x123000_1), .int .u8 (sx 1 x12_1 (bt a0 x12_1) x123001_1), .int .u8 x122002_1, .int .u8 x122003_1, .int .u8 x122004_1, .int .u8 x122005_1, .int .u8 x122006_1, .int .u8 x122007_1, .int .u8 x122008_1]) ?_ 2 _ rfl; (with_reducible repeat (first | refine blk_drewN ?_ _ | refine blk_drew ?_ | refine blk_alloc ?_ _)); refine blk_put (cs := #[.int .u8 (sx 0 x12_1 (bt a0 x12_1) x123000_1), .int .u8 x122001_1, .int .u8 x122002_1, .int .u8 x122003_1, .int .u8 x122004_1, .int .u8 x122005_1, .int .u8 x122006_1, .int .u8 x122007_1, .int .u8 x122008_1]) ?_ 1 _ rfl; (with_reducible repeat (first | refine blk_drewN ?_ _ | refine blk_drew ?_ | refine blk_alloc ?_ _)); refine blk_put (cs := #[.int .u8 x122000_1, .int .u8 x122001_1, .int .u8 x122002_1, .int .u8 x122003_1, .int .u8 x122004_1, .int .u8 x122005_1, .int .u8 x122006_1, .int .u8 x122007_1, .int .u8 x122008_1]) ?_ 0 _ rfl; (with_reducible repeat (first | refine blk_drewN ?_ _ | refine blk_drew ?_ | refine blk_alloc ?_ _)); exact BK121.out) Try.underlying43 rfl (by kernel_rfl)) rfl ?_
                  exact ⟨by first | rfl | (simp [errW_none, errW_some] <;> rfl) | (simp [*, errW_none, errW_some] <;> rfl), by repeat (first | (with_reducible first | exact HB.out | apply below_alloc | apply pw_below_drewN | apply below_drew1 | refine below_set ?_ GE121.out | refine below_set ?_ GE122.out) | exact HB.out)⟩
                · rw [if_neg c14] at H
                  have c14b0 : decide (t124 < 0) = false := decide_eq_false c14
                  clear c14
                  have H' := Aside0.mk H
                  clear H
                  have p9 : 0 ≤ (x12_1 : Int) := of_decide_eq_true (by first | (with_reducible assumption) | assumption)
                  have q9 : x12_1 < (a0.size : Int) := of_decide_eq_true (by first | (with_reducible assumption) | assumption)
                  have hx9 := bt_at a0 x12_1
                  replace p9 := eq_true p9
                  replace q9 := eq_true q9
                  have hnb22 := NB122_121.out
                  have hnc22 := NB121_122.out
                  have hcz23_0 : wr.cell? ⟨gb122, 0, none⟩ = some (.int .u8 x123000_1) := (blk_cell BK122.out 0).trans rfl
                  have hcz23_1 : wr.cell? ⟨gb122, 1, none⟩ = some (.int .u8 x123001_1) := (blk_cell BK122.out 1).trans rfl
                  have hcz23_2 : wr.cell? ⟨gb122, 2, none⟩ = some (.int .u8 x123002_1) := (blk_cell BK122.out 2).trans rfl
                  have hcz23_3 : wr.cell? ⟨gb122, 3, none⟩ = some (.int .u8 x123003_1) := (blk_cell BK122.out 3).trans rfl
                  have hcz23_4 : wr.cell? ⟨gb122, 4, none⟩ = some (.int .u8 x123004_1) := (blk_cell BK122.out 4).trans rfl
                  have hcz23_5 : wr.cell? ⟨gb122, 5, none⟩ = some (.int .u8 x123005_1) := (blk_cell BK122.out 5).trans rfl
                  have hcz23_6 : wr.cell? ⟨gb122, 6, none⟩ = some (.int .u8 x123006_1) := (blk_cell BK122.out 6).trans rfl
                  have hcz23_7 : wr.cell? ⟨gb122, 7, none⟩ = some (.int .u8 x123007_1) := (blk_cell BK122.out 7).trans rfl
                  have hcz23_8 : wr.cell? ⟨gb122, 8, none⟩ = some (.int .u8 x123008_1) := (blk_cell BK122.out 8).trans rfl
                  have hfz23_0 := blk_frozen BK122.out 0
                  have hfz23_1 := blk_frozen BK122.out 1
                  have hfz23_2 := blk_frozen BK122.out 2
                  have hfz23_3 := blk_frozen BK122.out 3
                  have hfz23_4 := blk_frozen BK122.out 4
                  have hfz23_5 := blk_frozen BK122.out 5
                  have hfz23_6 := blk_frozen BK122.out 6
                  have hfz23_7 := blk_frozen BK122.out 7
                  have hfz23_8 := blk_frozen BK122.out 8
                  have hy24 := blk_frozen BK122.out (x12_1).toNat
                  have p25 : 0 ≤ (x12_1 : Int) := of_decide_eq_true (by first | (with_reducible assumption) | assumption)
                  have q25 : (x12_1 : Int) < 9 := of_decide_eq_true (by first | (with_reducible assumption) | assumption)
                  have hx25 : wr.cell? ⟨gb122, (x12_1).toNat, none⟩ = some (.int .u8 (ix9 x12_1 x123000_1 x123001_1 x123002_1 x123003_1 x123004_1 x123005_1 x123006_1 x123007_1 x123008_1)) := ixcell9 BK122.out (decide_eq_true p25) (decide_eq_true (Int.lt_of_lt_of_le q25 (by decide)))
                  replace p25 := eq_true p25
                  replace q25 := eq_true q25
                  go_wp2_with (first | ((with_reducible refine gate_store (t := 5) (p := 19) rfl ?_); (try (rw [drewN_self wr]; generalize hq_ : World.drewN wr _ = wr; have n0_ := Aside0.mk (blk_at hq_ BK121.out); have n1_ := Aside0.mk (blk_at hq_ BK122.out); have n2_ := Aside0.mk (below_at hq_ HB.out); clear hq_ BK121 BK122 HB; have BK121 := n0_; have BK122 := n1_; have HB := n2_; clear n0_ n1_ n2_)); refine store_event (t := 5) (p := 19) (v := ?vo_w26) (w1 := (wr.setCell ⟨gb122, (x12_1 : Int).toNat, none⟩ (.int .u8 (bt a0 x12_1)))) ?hg ?ho ?hn ?hr ?_; (case ho => rfl); (case hg => rfl); (case hn => rfl); (case hr => first | (go_simp; done) | (go_simp; rfl)); intro w26 hw; have n0_ : Aside0 (w26.heap[gb121]? = some (.cells #[.int .u8 x122000_1, .int .u8 x122001_1, .int .u8 x122002_1, .int .u8 x122003_1, .int .u8 x122004_1, .int .u8 x122005_1, .int .u8 x122006_1, .int .u8 x122007_1, .int .u8 x122008_1] 43 (0, 0))) := ⟨(by rw [hw]; exact (by (with_reducible repeat (first | refine blk_drewN ?_ _ | refine blk_drew ?_ | refine blk_alloc ?_ _)); refine blk_far ?_ NB121_122.out _; (with_reducible repeat (first | refine blk_drewN ?_ _ | refine blk_drew ?_ | refine blk_alloc ?_ _)); exact BK121.out))⟩; have n1_ : Aside0 (w26.heap[gb122]? = some (.cells #[.int .u8 (sx 0 x12_1 (bt a0 x12_1) x123000_1), .int .u8 (sx 1 x12_1 (bt a0 x12_1) x123001_1), .int .u8 (sx 2 x12_1 (bt a0 x12_1) x123002_1), .int .u8 (sx 3 x12_1 (bt a0 x12_1) x123003_1), .int .u8 (sx 4 x12_1 (bt a0 x12_1) x123004_1), .int .u8 (sx 5 x12_1 (bt a0 x12_1) x123005_1), .int .u8 (sx 6 x12_1 (bt a0 x12_1) x123006_1), .int .u8 (sx 7 x12_1 (bt a0 x12_1) x123007_1), .int .u8 (sx 8 x12_1 (bt a0 x12_1) x123008_1)] 43 (0, 0))) := ⟨(by rw [hw]; exact (by (with_reducible repeat (first | refine blk_drewN ?_ _ | refine blk_drew ?_ | refine blk_alloc ?_ _)); refine blk_setv9 (by first | assumption | decide | omega) (by first | assumption | decide | omega) ?_ _; (with_reducible repeat (first | refine blk_drewN ?_ _ | refine blk_drew ?_ | refine blk_alloc ?_ _)); exact BK122.out))⟩; have n2_ : Aside0 (Below w.heap.size w w26) := ⟨(by rw [hw]; exact (by repeat (first | (with_reducible first | exact HB.out | apply below_alloc | apply pw_below_drewN | apply below_drew1 | refine below_set ?_ GE121.out | refine below_set ?_ GE122.out) | exact HB.out)))⟩; clear hw; clear BK121; clear BK122; clear HB; have BK121 := n0_; have BK122 := n1_; have HB := n2_; clear n0_ n1_ n2_) | (go_at_call 41; (with_reducible refine (identity_at.calls x12_1 t123 _ A10.out).mono ?_); rintro e w' ⟨rfl, ⟨nd, rfl⟩⟩; (try first | exact ⟨rfl, _, World.drewN_drewN _ _ _⟩ | exact ⟨rfl, _, Eq.trans (World.drewN_drewN _ _ _) (congrArg (World.drewN _) (Nat.add_assoc _ _ _))⟩); have p12 : 0 ≤ (x12_1 : Int) := of_decide_eq_true (by first | (with_reducible assumption) | assumption); have q12 : x12_1 < (a0.size : Int) := of_decide_eq_true (by first | (with_reducible assumption) | assumption); have hx12 := bt_at a0 x12_1; replace p12 := eq_true p12; replace q12 := eq_true q12) | (go_at_call 34; (with_reducible refine (strings_IndexByte.calls (t123 ++ a1) (bt a0 x12_1) t124 _ A13.out).mono ?_); rintro e w' ⟨rfl, ⟨nd, rfl⟩⟩; (try first | exact ⟨rfl, _, World.drewN_drewN _ _ _⟩ | exact ⟨rfl, _, Eq.trans (World.drewN_drewN _ _ _) (congrArg (World.drewN _) (Nat.add_assoc _ _ _))⟩)))
                  repeat (go_quiet (first | ((with_reducible refine gate_store (t := 5) (p := 19) rfl ?_); (try (rw [drewN_self wr]; generalize hq_ : World.drewN wr _ = wr; have n0_ := Aside0.mk (blk_at hq_ BK121.out); have n1_ := Aside0.mk (blk_at hq_ BK122.out); have n2_ := Aside0.mk (below_at hq_ HB.out); clear hq_ BK121 BK122 HB; have BK121 := n0_; have BK122 := n1_; have HB := n2_; clear n0_ n1_ n2_)); refine store_event (t := 5) (p := 19) (v := ?vo_w26) (w1 := (wr.setCell ⟨gb122, (x12_1 : Int).toNat, none⟩ (.int .u8 (bt a0 x12_1)))) ?hg ?ho ?hn ?hr ?_; (case ho => rfl); (case hg => rfl); (case hn => rfl); (case hr => first | (go_simp; done) | (go_simp; rfl)); intro w26 hw; have n0_ : Aside0 (w26.heap[gb121]? = some (.cells #[.int .u8 x122000_1, .int .u8 x122001_1, .int .u8 x122002_1, .int .u8 x122003_1, .int .u8 x122004_1, .int .u8 x122005_1, .int .u8 x122006_1, .int .u8 x122007_1, .int .u8 x122008_1] 43 (0, 0))) := ⟨(by rw [hw]; exact (by (with_reducible repeat (first | refine blk_drewN ?_ _ | refine blk_drew ?_ | refine blk_alloc ?_ _)); refine blk_far ?_ NB121_122.out _; (with_reducible repeat (first | refine blk_drewN ?_ _ | refine blk_drew ?_ | refine blk_alloc ?_ _)); exact BK121.out))⟩; have n1_ : Aside0 (w26.heap[gb122]? = some (.cells #[.int .u8 (sx 0 x12_1 (bt a0 x12_1) x123000_1), .int .u8 (sx 1 x12_1 (bt a0 x12_1) x123001_1), .int .u8 (sx 2 x12_1 (bt a0 x12_1) x123002_1), .int .u8 (sx 3 x12_1 (bt a0 x12_1) x123003_1), .int .u8 (sx 4 x12_1 (bt a0 x12_1) x123004_1), .int .u8 (sx 5 x12_1 (bt a0 x12_1) x123005_1), .int .u8 (sx 6 x12_1 (bt a0 x12_1) x123006_1), .int .u8 (sx 7 x12_1 (bt a0 x12_1) x123007_1), .int .u8 (sx 8 x12_1 (bt a0 x12_1) x123008_1)] 43 (0, 0))) := ⟨(by rw [hw]; exact (by (with_reducible repeat (first | refine blk_drewN ?_ _ | refine blk_drew ?_ | refine blk_alloc ?_ _)); refine blk_setv9 (by first | assumption | decide | omega) (by first | assumption | decide | omega) ?_ _; (with_reducible repeat (first | refine blk_drewN ?_ _ | refine blk_drew ?_ | refine blk_alloc ?_ _)); exact BK122.out))⟩; have n2_ : Aside0 (Below w.heap.size w w26) := ⟨(by rw [hw]; exact (by repeat (first | (with_reducible first | exact HB.out | apply below_alloc | apply pw_below_drewN | apply below_drew1 | refine below_set ?_ GE121.out | refine below_set ?_ GE122.out) | exact HB.out)))⟩; clear hw; clear BK121; clear BK122; clear HB; have BK121 := n0_; have BK122 := n1_; have HB := n2_; clear n0_ n1_ n2_) | (go_at_call 41; (with_reducible refine (identity_at.calls x12_1 t123 _ A10.out).mono ?_); rintro e w' ⟨rfl, ⟨nd, rfl⟩⟩; (try first | exact ⟨rfl, _, World.drewN_drewN _ _ _⟩ | exact ⟨rfl, _, Eq.trans (World.drewN_drewN _ _ _) (congrArg (World.drewN _) (Nat.add_assoc _ _ _))⟩); have p12 : 0 ≤ (x12_1 : Int) := of_decide_eq_true (by first | (with_reducible assumption) | assumption); have q12 : x12_1 < (a0.size : Int) := of_decide_eq_true (by first | (with_reducible assumption) | assumption); have hx12 := bt_at a0 x12_1; replace p12 := eq_true p12; replace q12 := eq_true q12) | (go_at_call 34; (with_reducible refine (strings_IndexByte.calls (t123 ++ a1) (bt a0 x12_1) t124 _ A13.out).mono ?_); rintro e w' ⟨rfl, ⟨nd, rfl⟩⟩; (try first | exact ⟨rfl, _, World.drewN_drewN _ _ _⟩ | exact ⟨rfl, _, Eq.trans (World.drewN_drewN _ _ _) (congrArg (World.drewN _) (Nat.add_assoc _ _ _))⟩))); try go_wp2_with (first | ((with_reducible refine gate_store (t := 5) (p := 19) rfl ?_); (try (rw [drewN_self wr]; generalize hq_ : World.drewN wr _ = wr; have n0_ := Aside0.mk (blk_at hq_ BK121.out); have n1_ := Aside0.mk (blk_at hq_ BK122.out); have n2_ := Aside0.mk (below_at hq_ HB.out); clear hq_ BK121 BK122 HB; have BK121 := n0_; have BK122 := n1_; have HB := n2_; clear n0_ n1_ n2_)); refine store_event (t := 5) (p := 19) (v := ?vo_w26) (w1 := (wr.setCell ⟨gb122, (x12_1 : Int).toNat, none⟩ (.int .u8 (bt a0 x12_1)))) ?hg ?ho ?hn ?hr ?_; (case ho => rfl); (case hg => rfl); (case hn => rfl); (case hr => first | (go_simp; done) | (go_simp; rfl)); intro w26 hw; have n0_ : Aside0 (w26.heap[gb121]? = some (.cells #[.int .u8 x122000_1, .int .u8 x122001_1, .int .u8 x122002_1, .int .u8 x122003_1, .int .u8 x122004_1, .int .u8 x122005_1, .int .u8 x122006_1, .int .u8 x122007_1, .int .u8 x122008_1] 43 (0, 0))) := ⟨(by rw [hw]; exact (by (with_reducible repeat (first | refine blk_drewN ?_ _ | refine blk_drew ?_ | refine blk_alloc ?_ _)); refine blk_far ?_ NB121_122.out _; (with_reducible repeat (first | refine blk_drewN ?_ _ | refine blk_drew ?_ | refine blk_alloc ?_ _)); exact BK121.out))⟩; have n1_ : Aside0 (w26.heap[gb122]? = some (.cells #[.int .u8 (sx 0 x12_1 (bt a0 x12_1) x123000_1), .int .u8 (sx 1 x12_1 (bt a0 x12_1) x123001_1), .int .u8 (sx 2 x12_1 (bt a0 x12_1) x123002_1), .int .u8 (sx 3 x12_1 (bt a0 x12_1) x123003_1), .int .u8 (sx 4 x12_1 (bt a0 x12_1) x123004_1), .int .u8 (sx 5 x12_1 (bt a0 x12_1) x123005_1), .int .u8 (sx 6 x12_1 (bt a0 x12_1) x123006_1), .int .u8 (sx 7 x12_1 (bt a0 x12_1) x123007_1), .int .u8 (sx 8 x12_1 (bt a0 x12_1) x123008_1)] 43 (0, 0))) := ⟨(by rw [hw]; exact (by (with_reducible repeat (first | refine blk_drewN ?_ _ | refine blk_drew ?_ | refine blk_alloc ?_ _)); refine blk_setv9 (by first | assumption | decide | omega) (by first | assumption | decide | omega) ?_ _; (with_reducible repeat (first | refine blk_drewN ?_ _ | refine blk_drew ?_ | refine blk_alloc ?_ _)); exact BK122.out))⟩; have n2_ : Aside0 (Below w.heap.size w w26) := ⟨(by rw [hw]; exact (by repeat (first | (with_reducible first | exact HB.out | apply below_alloc | apply pw_below_drewN | apply below_drew1 | refine below_set ?_ GE121.out | refine below_set ?_ GE122.out) | exact HB.out)))⟩; clear hw; clear BK121; clear BK122; clear HB; have BK121 := n0_; have BK122 := n1_; have HB := n2_; clear n0_ n1_ n2_) | (go_at_call 41; (with_reducible refine (identity_at.calls x12_1 t123 _ A10.out).mono ?_); rintro e w' ⟨rfl, ⟨nd, rfl⟩⟩; (try first | exact ⟨rfl, _, World.drewN_drewN _ _ _⟩ | exact ⟨rfl, _, Eq.trans (World.drewN_drewN _ _ _) (congrArg (World.drewN _) (Nat.add_assoc _ _ _))⟩); have p12 : 0 ≤ (x12_1 : Int) := of_decide_eq_true (by first | (with_reducible assumption) | assumption); have q12 : x12_1 < (a0.size : Int) := of_decide_eq_true (by first | (with_reducible assumption) | assumption); have hx12 := bt_at a0 x12_1; replace p12 := eq_true p12; replace q12 := eq_true q12) | (go_at_call 34; (with_reducible refine (strings_IndexByte.calls (t123 ++ a1) (bt a0 x12_1) t124 _ A13.out).mono ?_); rintro e w' ⟨rfl, ⟨nd, rfl⟩⟩; (try first | exact ⟨rfl, _, World.drewN_drewN _ _ _⟩ | exact ⟨rfl, _, Eq.trans (World.drewN_drewN _ _ _) (congrArg (World.drewN _) (Nat.add_assoc _ _ _))⟩))))
                  go_roundg k1
                  case measure => have := HK1.out; omega
                  case rel => exact ⟨(wrap64 (x12_1 + 1)), (x122000_1), (x122001_1), (x122002_1), (x122003_1), (x122004_1), (x122005_1), (x122006_1), (x122007_1), (x122008_1), (sx 0 x12_1 (bt a0 x12_1) x123000_1), (sx 1 x12_1 (bt a0 x12_1) x123001_1), (sx 2 x12_1 (bt a0 x12_1) x123002_1), (sx 3 x12_1 (bt a0 x12_1) x123003_1), (sx 4 x12_1 (bt a0 x12_1) x123004_1), (sx 5 x12_1 (bt a0 x12_1) x123005_1), (sx 6 x12_1 (bt a0 x12_1) x123006_1), (sx 7 x12_1 (bt a0 x12_1) x123007_1), (sx 8 x12_1 (bt a0 x12_1) x123008_1), (by first | rfl | (simp; done) | (simp [*]; done)), H', ⟨by have := HK1.out; omega⟩, ⟨by (with_reducible repeat (first | refine blk_drewN ?_ _ | refine blk_drew ?_ | refine blk_alloc ?_ _)); exact BK121.out⟩, ⟨by (with_reducible repeat (first | refine blk_drewN ?_ _ | refine blk_drew ?_ | refine blk_alloc ?_ _)); exact BK122.out⟩, ⟨by repeat (first | (with_reducible first | exact HB.out | apply below_alloc | apply pw_below_drewN | apply below_drew1 | refine below_set ?_ GE121.out | refine below_set ?_ GE122.out) | exact HB.out)⟩⟩
              · rw [if_neg c11] at H
                exact absurd H (by simp)
            · rw [if_neg c8] at H
              exact absurd H (by simp)
          · rw [if_neg c7] at H
            exact absurd H (by simp)
        · rw [if_neg c6] at H
          have c6b0 : decide (x12_1 < 9) = false := decide_eq_false c6
          clear c6
          simp only [Option.some.injEq, Prod.mk.injEq] at H
          obtain ⟨rfl, rfl, rfl, rfl, rfl, rfl, rfl, rfl, rfl, rfl⟩ := H
          have hnb27 := NB122_121.out
          have hnc27 := NB121_122.out
          have hcz28_0 : wr.cell? ⟨gb122, 0, none⟩ = some (.int .u8 x123000_1) := (blk_cell BK122.out 0).trans rfl
          have hcz28_1 : wr.cell? ⟨gb122, 1, none⟩ = some (.int .u8 x123001_1) := (blk_cell BK122.out 1).trans rfl
          have hcz28_2 : wr.cell? ⟨gb122, 2, none⟩ = some (.int .u8 x123002_1) := (blk_cell BK122.out 2).trans rfl
          have hcz28_3 : wr.cell? ⟨gb122, 3, none⟩ = some (.int .u8 x123003_1) := (blk_cell BK122.out 3).trans rfl
          have hcz28_4 : wr.cell? ⟨gb122, 4, none⟩ = some (.int .u8 x123004_1) := (blk_cell BK122.out 4).trans rfl
          have hcz28_5 : wr.cell? ⟨gb122, 5, none⟩ = some (.int .u8 x123005_1) := (blk_cell BK122.out 5).trans rfl
          have hcz28_6 : wr.cell? ⟨gb122, 6, none⟩ = some (.int .u8 x123006_1) := (blk_cell BK122.out 6).trans rfl
          have hcz28_7 : wr.cell? ⟨gb122, 7, none⟩ = some (.int .u8 x123007_1) := (blk_cell BK122.out 7).trans rfl
          have hcz28_8 : wr.cell? ⟨gb122, 8, none⟩ = some (.int .u8 x123008_1) := (blk_cell BK122.out 8).trans rfl
          have hfz28_0 := blk_frozen BK122.out 0
          have hfz28_1 := blk_frozen BK122.out 1
          have hfz28_2 := blk_frozen BK122.out 2
          have hfz28_3 := blk_frozen BK122.out 3
          have hfz28_4 := blk_frozen BK122.out 4
          have hfz28_5 := blk_frozen BK122.out 5
          have hfz28_6 := blk_frozen BK122.out 6
          have hfz28_7 := blk_frozen BK122.out 7
          have hfz28_8 := blk_frozen BK122.out 8
          have hcz29_0 : wr.cell? ⟨gb121, 0, none⟩ = some (.int .u8 x122000_1) := (blk_cell BK121.out 0).trans rfl
          have hcz29_1 : wr.cell? ⟨gb121, 1, none⟩ = some (.int .u8 x122001_1) := (blk_cell BK121.out 1).trans rfl
          have hcz29_2 : wr.cell? ⟨gb121, 2, none⟩ = some (.int .u8 x122002_1) := (blk_cell BK121.out 2).trans rfl
          have hcz29_3 : wr.cell? ⟨gb121, 3, none⟩ = some (.int .u8 x122003_1) := (blk_cell BK121.out 3).trans rfl
          have hcz29_4 : wr.cell? ⟨gb121, 4, none⟩ = some (.int .u8 x122004_1) := (blk_cell BK121.out 4).trans rfl
          have hcz29_5 : wr.cell? ⟨gb121, 5, none⟩ = some (.int .u8 x122005_1) := (blk_cell BK121.out 5).trans rfl
          have hcz29_6 : wr.cell? ⟨gb121, 6, none⟩ = some (.int .u8 x122006_1) := (blk_cell BK121.out 6).trans rfl
          have hcz29_7 : wr.cell? ⟨gb121, 7, none⟩ = some (.int .u8 x122007_1) := (blk_cell BK121.out 7).trans rfl
          have hcz29_8 : wr.cell? ⟨gb121, 8, none⟩ = some (.int .u8 x122008_1) := (blk_cell BK121.out 8).trans rfl
          have hfz29_0 := blk_frozen BK121.out 0
          have hfz29_1 := blk_frozen BK121.out 1
          have hfz29_2 := blk_frozen BK121.out 2
          have hfz29_3 := blk_frozen BK121.out 3
          have hfz29_4 := blk_frozen BK121.out 4
          have hfz29_5 := blk_frozen BK121.out 5
          have hfz29_6 := blk_frozen BK121.out 6
          have hfz29_7 := blk_frozen BK121.out 7
          have hfz29_8 := blk_frozen BK121.out 8
          go_wp2
          repeat (go_quiet (fail); try go_wp2)
          refine bodyPost_ret (results_ct rfl _ _ gb121 43 #[.int .u8 x123000_1, .int .u8 x123001_1, .int .u8 x123002_1, .int .u8 x123003_1, .int .u8 x123004_1, .int .u8 x123005_1, .int .u8 x123006_1, .int .u8 x123007_1, .int .u8 x123008_1] (0, 0) _ rfl (by (with_reducible repeat (first | refine blk_drewN ?_ _ | refine blk_drew ?_ | refine blk_alloc ?_ _)); refine blk_put (cs := #[.int .u8 x123000_1, .int .u8 x123001_1, .int .u8 x123002_1, .int .u8 x123003_1, .int .u8 x123004_1, .int .u8 x123005_1, .int .u8 x123006_1, .int .u8 x123007_1, .int .u8 x122008_1]) ?_ 8 _ rfl; (with_reducible repeat (first | refine blk_drewN ?_ _ | refine blk_drew ?_ | refine blk_alloc ?_ _)); refine blk_put (cs := #[.int .u8 x123000_1, .int .u8 x123001_1, .int .u8 x123002_1, .int .u8 x123003_1, .int .u8 x123004_1, .int .u8 x123005_1, .int .u8 x123006_1, .int .u8 x122007_1, .int .u8 x122008_1]) ?_ 7 _ rfl; (with_reducible repeat (first | refine blk_drewN ?_ _ | refine blk_drew ?_ | refine blk_alloc ?_ _)); refine blk_put (cs := #[.int .u8 x123000_1, .int .u8 x123001_1, .int .u8 x123002_1, .int .u8 x123003_1, .int .u8 x123004_1, .int .u8 x123005_1, .int .u8 x122006_1, .int .u8 x122007_1, .int .u8 x122008_1]) ?_ 6 _ rfl; (with_reducible repeat (first | refine blk_drewN ?_ _ | refine blk_drew ?_ | refine blk_alloc ?_ _)); refine blk_put (cs := #[.int .u8 x123000_1, .int .u8 x123001_1, .int .u8 x123002_1, .int .u8 x123003_1, .int .u8 x123004_1, .int .u8 x122005_1, .int .u8 x122006_1, .int .u8 x122007_1, .int .u8 x122008_1]) ?_ 5 _ rfl; (with_reducible repeat (first | refine blk_drewN ?_ _ | refine blk_drew ?_ | refine blk_alloc ?_ _)); refine blk_put (cs := #[.int .u8 x123000_1, .int .u8 x123001_1, .int .u8 x123002_1, .int .u8 x123003_1, .int .u8 x122004_1, .int .u8 x122005_1, .int .u8 x122006_1, .int .u8 x122007_1, .int .u8 x122008_1]) ?_ 4 _ rfl; (with_reducible repeat (first | refine blk_drewN ?_ _ | refine blk_drew ?_ | refine blk_alloc ?_ _)); refine blk_put (cs := #[.int .u8 x123000_1, .int .u8 x123001_1, .int .u8 x123002_1, .int .u8 x122003_1, .int .u8 x122004_1, .int .u8 x122005_1, .int .u8 x122006_1, .int .u8 x122007_1, .int .u8 x122008_1]) ?_ 3 _ rfl; (with_reducible repeat (first | refine blk_drewN ?_ _ | refine blk_drew ?_ | refine blk_alloc ?_ _)); refine blk_put (cs := #[.int .u8 x123000_1, .int .u8 x123001_1, .int .u8 x122002_1, .int .u8 x122003_1, .int .u8 x122004_1, .int .u8 x122005_1, .int .u8 x122006_1, .int .u8 x122007_1, .int .u8 x122008_1]) ?_ 2 _ rfl; (with_reducible repeat (first | refine blk_drewN ?_ _ | refine blk_drew ?_ | refine blk_alloc ?_ _)); refine blk_put (cs := #[.int .u8 x123000_1, .int .u8 x122001_1, .int .u8 x122002_1, .int .u8 x122003_1, .int .u8 x122004_1, .int .u8 x122005_1, .int .u8 x122006_1, .int .u8 x122007_1, .int .u8 x122008_1]) ?_ 1 _ rfl; (with_reducible repeat (first | refine blk_drewN ?_ _ | refine blk_drew ?_ | refine blk_alloc ?_ _)); refine blk_put (cs := #[.int .u8 x122000_1, .int .u8 x122001_1, .int .u8 x122002_1, .int .u8 x122003_1, .int .u8 x122004_1, .int .u8 x122005_1, .int .u8 x122006_1, .int .u8 x122007_1, .int .u8 x122008_1]) ?_ 0 _ rfl; (with_reducible repeat (first | refine blk_drewN ?_ _ | refine blk_drew ?_ | refine blk_alloc ?_ _)); exact BK121.out) Try.underlying43 rfl (by kernel_rfl)) rfl ?_
          exact ⟨by first | rfl | (simp [errW_none, errW_some] <;> rfl) | (simp [*, errW_none, errW_some] <;> rfl), by repeat (first | (with_reducible first | exact HB.out | apply below_alloc | apply pw_below_drewN | apply below_drew1 | refine below_set ?_ GE121.out | refine below_set ?_ GE122.out) | exact HB.out)⟩
  · rw [if_neg c3] at H
    have c3b0 : ((a0.size : Int) == 9) = false := beq_eq_false_iff_ne.mpr c3
    have c3b1 : ((a0.size : Int) != 9) = true := bne_iff_ne.mpr c3
    simp only [Option.some.injEq, Prod.mk.injEq] at H
    obtain ⟨rfl, rfl, rfl, rfl, rfl, rfl, rfl, rfl, rfl, rfl⟩ := H
    go_enter Try.func30, Try.ntmps30
    go_wp2_with (first | ((with_reducible refine gate_dst (N := 4) rfl ?_); refine box_event ?hg (N := 4) ?hd (cs := #[.int .u8 0, .int .u8 0, .int .u8 0, .int .u8 0, .int .u8 0, .int .u8 0, .int .u8 0, .int .u8 0, .int .u8 0]) (t := 43) ?hr ?_; (case hd => rfl); (case hg => rfl); (case hr => first | (go_simp; done) | (go_simp; rfl)); intro gb121 hg w30 hbox hb; have n0_ := Aside0.mk (below_step (by repeat (first | (with_reducible first | exact HB.out | apply below_alloc | apply pw_below_drewN | apply below_drew1) | exact HB.out)) hb); have n1_ := Aside0.mk (hbox); have n2_ := Aside0.mk ((by rw [hg]; exact (below_size (by repeat (first | (with_reducible first | exact HB.out | apply below_alloc | apply pw_below_drewN | apply below_drew1) | exact HB.out))) : w.heap.size ≤ gb121)); have n3_ := Aside0.mk ((by rw [hg]; exact (below_size (by repeat (first | (with_reducible first | exact HB.out | apply below_alloc | apply pw_below_drewN | apply below_drew1) | exact HB.out))) : w.heap.size ≤ gb121)); clear HB; have HB := n0_; have BK121 := n1_; have GW121 := n2_; have GE121 := n3_; clear n0_ n1_ n2_ n3_; clear hb hbox hg) | ((with_reducible refine gate_dst (N := 6) rfl ?_); refine box_event ?hg (N := 6) ?hd (cs := #[.int .u8 0, .int .u8 0, .int .u8 0, .int .u8 0, .int .u8 0, .int .u8 0, .int .u8 0, .int .u8 0, .int .u8 0]) (t := 43) ?hr ?_; (case hd => rfl); (case hg => rfl); (case hr => first | (go_simp; done) | (go_simp; rfl)); intro gb122 hg w31 hbox hb; have n0_ := Aside0.mk (blk_below (g := gb121) (o := .cells #[.int .u8 0, .int .u8 0, .int .u8 0, .int .u8 0, .int .u8 0, .int .u8 0, .int .u8 0, .int .u8 0, .int .u8 0] 43 (0, 0)) (by (with_reducible repeat (first | refine blk_drewN ?_ _ | refine blk_drew ?_ | refine blk_alloc ?_ _)); exact BK121.out) hb); have n1_ := Aside0.mk (below_step (by repeat (first | (with_reducible first | exact HB.out | apply below_alloc | apply pw_below_drewN | apply below_drew1 | refine below_set ?_ GE121.out) | exact HB.out)) hb); have n2_ := Aside0.mk (hbox); have n3_ := Aside0.mk ((by rw [hg]; exact (below_size (by repeat (first | (with_reducible first | exact HB.out | apply below_alloc | apply pw_below_drewN | apply below_drew1 | refine below_set ?_ GE121.out) | exact HB.out))) : w.heap.size ≤ gb122)); have n4_ := Aside0.mk ((by rw [hg]; exact (below_size (by repeat (first | (with_reducible first | exact HB.out | apply below_alloc | apply pw_below_drewN | apply below_drew1 | refine below_set ?_ GE121.out) | exact HB.out))) : w.heap.size ≤ gb122)); have n5_ := Aside0.mk ((by rw [hg]; exact Nat.ne_of_lt (blk_lt (g := gb121) (o := .cells #[.int .u8 0, .int .u8 0, .int .u8 0, .int .u8 0, .int .u8 0, .int .u8 0, .int .u8 0, .int .u8 0, .int .u8 0] 43 (0, 0)) (by (with_reducible repeat (first | refine blk_drewN ?_ _ | refine blk_drew ?_ | refine blk_alloc ?_ _)); exact BK121.out)) : gb121 ≠ gb122)); have n6_ := Aside0.mk ((by rw [hg]; exact Nat.ne_of_gt (blk_lt (g := gb121) (o := .cells #[.int .u8 0, .int .u8 0, .int .u8 0, .int .u8 0, .int .u8 0, .int .u8 0, .int .u8 0, .int .u8 0, .int .u8 0] 43 (0, 0)) (by (with_reducible repeat (first | refine blk_drewN ?_ _ | refine blk_drew ?_ | refine blk_alloc ?_ _)); exact BK121.out)) : gb122 ≠ gb121)); clear BK121; clear HB; have BK121 := n0_; have HB := n1_; have BK122 := n2_; have GW122 := n3_; have GE122 := n4_; have NB121_122 := n5_; have NB122_121 := n6_; clear n0_ n1_ n2_ n3_ n4_ n5_ n6_; clear hb hbox hg; have hnb32 := NB122_121.out; have hnc32 := NB121_122.out; have hcz33_0 : w31.cell? ⟨gb122, 0, none⟩ = some (.int .u8 0) := (blk_cell BK122.out 0).trans rfl; have hcz33_1 : w31.cell? ⟨gb122, 1, none⟩ = some (.int .u8 0) := (blk_cell BK122.out 1).trans rfl; have hcz33_2 : w31.cell? ⟨gb122, 2, none⟩ = some (.int .u8 0) := (blk_cell BK122.out 2).trans rfl; have hcz33_3 : w31.cell? ⟨gb122, 3, none⟩ = some (.int .u8 0) := (blk_cell BK122.out 3).trans rfl; have hcz33_4 : w31.cell? ⟨gb122, 4, none⟩ = some (.int .u8 0) := (blk_cell BK122.out 4).trans rfl; have hcz33_5 : w31.cell? ⟨gb122, 5, none⟩ = some (.int .u8 0) := (blk_cell BK122.out 5).trans rfl; have hcz33_6 : w31.cell? ⟨gb122, 6, none⟩ = some (.int .u8 0) := (blk_cell BK122.out 6).trans rfl; have hcz33_7 : w31.cell? ⟨gb122, 7, none⟩ = some (.int .u8 0) := (blk_cell BK122.out 7).trans rfl; have hcz33_8 : w31.cell? ⟨gb122, 8, none⟩ = some (.int .u8 0) := (blk_cell BK122.out 8).trans rfl; have hfz33_0 := blk_frozen BK122.out 0; have hfz33_1 := blk_frozen BK122.out 1; have hfz33_2 := blk_frozen BK122.out 2; have hfz33_3 := blk_frozen BK122.out 3; have hfz33_4 := blk_frozen BK122.out 4; have hfz33_5 := blk_frozen BK122.out 5; have hfz33_6 := blk_frozen BK122.out 6; have hfz33_7 := blk_frozen BK122.out 7; have hfz33_8 := blk_frozen BK122.out 8; have hcz34_0 : w31.cell? ⟨gb121, 0, none⟩ = some (.int .u8 0) := (blk_cell BK121.out 0).trans rfl; have hcz34_1 : w31.cell? ⟨gb121, 1, none⟩ = some (.int .u8 0) := (blk_cell BK121.out 1).trans rfl; have hcz34_2 : w31.cell? ⟨gb121, 2, none⟩ = some (.int .u8 0) := (blk_cell BK121.out 2).trans rfl; have hcz34_3 : w31.cell? ⟨gb121, 3, none⟩ = some (.int .u8 0) := (blk_cell BK121.out 3).trans rfl; have hcz34_4 : w31.cell? ⟨gb121, 4, none⟩ = some (.int .u8 0) := (blk_cell BK121.out 4).trans rfl; have hcz34_5 : w31.cell? ⟨gb121, 5, none⟩ = some (.int .u8 0) := (blk_cell BK121.out 5).trans rfl; have hcz34_6 : w31.cell? ⟨gb121, 6, none⟩ = some (.int .u8 0) := (blk_cell BK121.out 6).trans rfl; have hcz34_7 : w31.cell? ⟨gb121, 7, none⟩ = some (.int .u8 0) := (blk_cell BK121.out 7).trans rfl; have hcz34_8 : w31.cell? ⟨gb121, 8, none⟩ = some (.int .u8 0) := (blk_cell BK121.out 8).trans rfl; have hfz34_0 := blk_frozen BK121.out 0; have hfz34_1 := blk_frozen BK121.out 1; have hfz34_2 := blk_frozen BK121.out 2; have hfz34_3 := blk_frozen BK121.out 3; have hfz34_4 := blk_frozen BK121.out 4; have hfz34_5 := blk_frozen BK121.out 5; have hfz34_6 := blk_frozen BK121.out 6; have hfz34_7 := blk_frozen BK121.out 7; have hfz34_8 := blk_frozen BK121.out 8))
    repeat (go_quiet (first | ((with_reducible refine gate_dst (N := 4) rfl ?_); refine box_event ?hg (N := 4) ?hd (cs := #[.int .u8 0, .int .u8 0, .int .u8 0, .int .u8 0, .int .u8 0, .int .u8 0, .int .u8 0, .int .u8 0, .int .u8 0]) (t := 43) ?hr ?_; (case hd => rfl); (case hg => rfl); (case hr => first | (go_simp; done) | (go_simp; rfl)); intro gb121 hg w30 hbox hb; have n0_ := Aside0.mk (below_step (by repeat (first | (with_reducible first | exact HB.out | apply below_alloc | apply pw_below_drewN | apply below_drew1) | exact HB.out)) hb); have n1_ := Aside0.mk (hbox); have n2_ := Aside0.mk ((by rw [hg]; exact (below_size (by repeat (first | (with_reducible first | exact HB.out | apply below_alloc | apply pw_below_drewN | apply below_drew1) | exact HB.out))) : w.heap.size ≤ gb121)); have n3_ := Aside0.mk ((by rw [hg]; exact (below_size (by repeat (first | (with_reducible first | exact HB.out | apply below_alloc | apply pw_below_drewN | apply below_drew1) | exact HB.out))) : w.heap.size ≤ gb121)); clear HB; have HB := n0_; have BK121 := n1_; have GW121 := n2_; have GE121 := n3_; clear n0_ n1_ n2_ n3_; clear hb hbox hg) | ((with_reducible refine gate_dst (N := 6) rfl ?_); refine box_event ?hg (N := 6) ?hd (cs := #[.int .u8 0, .int .u8 0, .int .u8 0, .int .u8 0, .int .u8 0, .int .u8 0, .int .u8 0, .int .u8 0, .int .u8 0]) (t := 43) ?hr ?_; (case hd => rfl); (case hg => rfl); (case hr => first | (go_simp; done) | (go_simp; rfl)); intro gb122 hg w31 hbox hb; have n0_ := Aside0.mk (blk_below (g := gb121) (o := .cells #[.int .u8 0, .int .u8 0, .int .u8 0, .int .u8 0, .int .u8 0, .int .u8 0, .int .u8 0, .int .u8 0, .int .u8 0] 43 (0, 0)) (by (with_reducible repeat (first | refine blk_drewN ?_ _ | refine blk_drew ?_ | refine blk_alloc ?_ _)); exact BK121.out) hb); have n1_ := Aside0.mk (below_step (by repeat (first | (with_reducible first | exact HB.out | apply below_alloc | apply pw_below_drewN | apply below_drew1 | refine below_set ?_ GE121.out) | exact HB.out)) hb); have n2_ := Aside0.mk (hbox); have n3_ := Aside0.mk ((by rw [hg]; exact (below_size (by repeat (first | (with_reducible first | exact HB.out | apply below_alloc | apply pw_below_drewN | apply below_drew1 | refine below_set ?_ GE121.out) | exact HB.out))) : w.heap.size ≤ gb122)); have n4_ := Aside0.mk ((by rw [hg]; exact (below_size (by repeat (first | (with_reducible first | exact HB.out | apply below_alloc | apply pw_below_drewN | apply below_drew1 | refine below_set ?_ GE121.out) | exact HB.out))) : w.heap.size ≤ gb122)); have n5_ := Aside0.mk ((by rw [hg]; exact Nat.ne_of_lt (blk_lt (g := gb121) (o := .cells #[.int .u8 0, .int .u8 0, .int .u8 0, .int .u8 0, .int .u8 0, .int .u8 0, .int .u8 0, .int .u8 0, .int .u8 0] 43 (0, 0)) (by (with_reducible repeat (first | refine blk_drewN ?_ _ | refine blk_drew ?_ | refine blk_alloc ?_ _)); exact BK121.out)) : gb121 ≠ gb122)); have n6_ := Aside0.mk ((by rw [hg]; exact Nat.ne_of_gt (blk_lt (g := gb121) (o := .cells #[.int .u8 0, .int .u8 0, .int .u8 0, .int .u8 0, .int .u8 0, .int .u8 0, .int .u8 0, .int .u8 0, .int .u8 0] 43 (0, 0)) (by (with_reducible repeat (first | refine blk_drewN ?_ _ | refine blk_drew ?_ | refine blk_alloc ?_ _)); exact BK121.out)) : gb122 ≠ gb121)); clear BK121; clear HB; have BK121 := n0_; have HB := n1_; have BK122 := n2_; have GW122 := n3_; have GE122 := n4_; have NB121_122 := n5_; have NB122_121 := n6_; clear n0_ n1_ n2_ n3_ n4_ n5_ n6_; clear hb hbox hg; have hnb32 := NB122_121.out; have hnc32 := NB121_122.out; have hcz33_0 : w31.cell? ⟨gb122, 0, none⟩ = some (.int .u8 0) := (blk_cell BK122.out 0).trans rfl; have hcz33_1 : w31.cell? ⟨gb122, 1, none⟩ = some (.int .u8 0) := (blk_cell BK122.out 1).trans rfl; have hcz33_2 : w31.cell? ⟨gb122, 2, none⟩ = some (.int .u8 0) := (blk_cell BK122.out 2).trans rfl; have hcz33_3 : w31.cell? ⟨gb122, 3, none⟩ = some (.int .u8 0) := (blk_cell BK122.out 3).trans rfl; have hcz33_4 : w31.cell? ⟨gb122, 4, none⟩ = some (.int .u8 0) := (blk_cell BK122.out 4).trans rfl; have hcz33_5 : w31.cell? ⟨gb122, 5, none⟩ = some (.int .u8 0) := (blk_cell BK122.out 5).trans rfl; have hcz33_6 : w31.cell? ⟨gb122, 6, none⟩ = some (.int .u8 0) := (blk_cell BK122.out 6).trans rfl; have hcz33_7 : w31.cell? ⟨gb122, 7, none⟩ = some (.int .u8 0) := (blk_cell BK122.out 7).trans rfl; have hcz33_8 : w31.cell? ⟨gb122, 8, none⟩ = some (.int .u8 0) := (blk_cell BK122.out 8).trans rfl; have hfz33_0 := blk_frozen BK122.out 0; have hfz33_1 := blk_frozen BK122.out 1; have hfz33_2 := blk_frozen BK122.out 2; have hfz33_3 := blk_frozen BK122.out 3; have hfz33_4 := blk_frozen BK122.out 4; have hfz33_5 := blk_frozen BK122.out 5; have hfz33_6 := blk_frozen BK122.out 6; have hfz33_7 := blk_frozen BK122.out 7; have hfz33_8 := blk_frozen BK122.out 8; have hcz34_0 : w31.cell? ⟨gb121, 0, none⟩ = some (.int .u8 0) := (blk_cell BK121.out 0).trans rfl; have hcz34_1 : w31.cell? ⟨gb121, 1, none⟩ = some (.int .u8 0) := (blk_cell BK121.out 1).trans rfl; have hcz34_2 : w31.cell? ⟨gb121, 2, none⟩ = some (.int .u8 0) := (blk_cell BK121.out 2).trans rfl; have hcz34_3 : w31.cell? ⟨gb121, 3, none⟩ = some (.int .u8 0) := (blk_cell BK121.out 3).trans rfl; have hcz34_4 : w31.cell? ⟨gb121, 4, none⟩ = some (.int .u8 0) := (blk_cell BK121.out 4).trans rfl; have hcz34_5 : w31.cell? ⟨gb121, 5, none⟩ = some (.int .u8 0) := (blk_cell BK121.out 5).trans rfl; have hcz34_6 : w31.cell? ⟨gb121, 6, none⟩ = some (.int .u8 0) := (blk_cell BK121.out 6).trans rfl; have hcz34_7 : w31.cell? ⟨gb121, 7, none⟩ = some (.int .u8 0) := (blk_cell BK121.out 7).trans rfl; have hcz34_8 : w31.cell? ⟨gb121, 8, none⟩ = some (.int .u8 0) := (blk_cell BK121.out 8).trans rfl; have hfz34_0 := blk_frozen BK121.out 0; have hfz34_1 := blk_frozen BK121.out 1; have hfz34_2 := blk_frozen BK121.out 2; have hfz34_3 := blk_frozen BK121.out 3; have hfz34_4 := blk_frozen BK121.out 4; have hfz34_5 := blk_frozen BK121.out 5; have hfz34_6 := blk_frozen BK121.out 6; have hfz34_7 := blk_frozen BK121.out 7; have hfz34_8 := blk_frozen BK121.out 8)); try go_wp2_with (first | ((with_reducible refine gate_dst (N := 4) rfl ?_); refine box_event ?hg (N := 4) ?hd (cs := #[.int .u8 0, .int .u8 0, .int .u8 0, .int .u8 0, .int .u8 0, .int .u8 0, .int .u8 0, .int .u8 0, .int .u8 0]) (t := 43) ?hr ?_; (case hd => rfl); (case hg => rfl); (case hr => first | (go_simp; done) | (go_simp; rfl)); intro gb121 hg w30 hbox hb; have n0_ := Aside0.mk (below_step (by repeat (first | (with_reducible first | exact HB.out | apply below_alloc | apply pw_below_drewN | apply below_drew1) | exact HB.out)) hb); have n1_ := Aside0.mk (hbox); have n2_ := Aside0.mk ((by rw [hg]; exact (below_size (by repeat (first | (with_reducible first | exact HB.out | apply below_alloc | apply pw_below_drewN | apply below_drew1) | exact HB.out))) : w.heap.size ≤ gb121)); have n3_ := Aside0.mk ((by rw [hg]; exact (below_size (by repeat (first | (with_reducible first | exact HB.out | apply below_alloc | apply pw_below_drewN | apply below_drew1) | exact HB.out))) : w.heap.size ≤ gb121)); clear HB; have HB := n0_; have BK121 := n1_; have GW121 := n2_; have GE121 := n3_; clear n0_ n1_ n2_ n3_; clear hb hbox hg) | ((with_reducible refine gate_dst (N := 6) rfl ?_); refine box_event ?hg (N := 6) ?hd (cs := #[.int .u8 0, .int .u8 0, .int .u8 0, .int .u8 0, .int .u8 0, .int .u8 0, .int .u8 0, .int .u8 0, .int .u8 0]) (t := 43) ?hr ?_; (case hd => rfl); (case hg => rfl); (case hr => first | (go_simp; done) | (go_simp; rfl)); intro gb122 hg w31 hbox hb; have n0_ := Aside0.mk (blk_below (g := gb121) (o := .cells #[.int .u8 0, .int .u8 0, .int .u8 0, .int .u8 0, .int .u8 0, .int .u8 0, .int .u8 0, .int .u8 0, .int .u8 0] 43 (0, 0)) (by (with_reducible repeat (first | refine blk_drewN ?_ _ | refine blk_drew ?_ | refine blk_alloc ?_ _)); exact BK121.out) hb); have n1_ := Aside0.mk (below_step (by repeat (first | (with_reducible first | exact HB.out | apply below_alloc | apply pw_below_drewN | apply below_drew1 | refine below_set ?_ GE121.out) | exact HB.out)) hb); have n2_ := Aside0.mk (hbox); have n3_ := Aside0.mk ((by rw [hg]; exact (below_size (by repeat (first | (with_reducible first | exact HB.out | apply below_alloc | apply pw_below_drewN | apply below_drew1 | refine below_set ?_ GE121.out) | exact HB.out))) : w.heap.size ≤ gb122)); have n4_ := Aside0.mk ((by rw [hg]; exact (below_size (by repeat (first | (with_reducible first | exact HB.out | apply below_alloc | apply pw_below_drewN | apply below_drew1 | refine below_set ?_ GE121.out) | exact HB.out))) : w.heap.size ≤ gb122)); have n5_ := Aside0.mk ((by rw [hg]; exact Nat.ne_of_lt (blk_lt (g := gb121) (o := .cells #[.int .u8 0, .int .u8 0, .int .u8 0, .int .u8 0, .int .u8 0, .int .u8 0, .int .u8 0, .int .u8 0, .int .u8 0] 43 (0, 0)) (by (with_reducible repeat (first | refine blk_drewN ?_ _ | refine blk_drew ?_ | refine blk_alloc ?_ _)); exact BK121.out)) : gb121 ≠ gb122)); have n6_ := Aside0.mk ((by rw [hg]; exact Nat.ne_of_gt (blk_lt (g := gb121) (o := .cells #[.int .u8 0, .int .u8 0, .int .u8 0, .int .u8 0, .int .u8 0, .int .u8 0, .int .u8 0, .int .u8 0, .int .u8 0] 43 (0, 0)) (by (with_reducible repeat (first | refine blk_drewN ?_ _ | refine blk_drew ?_ | refine blk_alloc ?_ _)); exact BK121.out)) : gb122 ≠ gb121)); clear BK121; clear HB; have BK121 := n0_; have HB := n1_; have BK122 := n2_; have GW122 := n3_; have GE122 := n4_; have NB121_122 := n5_; have NB122_121 := n6_; clear n0_ n1_ n2_ n3_ n4_ n5_ n6_; clear hb hbox hg; have hnb32 := NB122_121.out; have hnc32 := NB121_122.out; have hcz33_0 : w31.cell? ⟨gb122, 0, none⟩ = some (.int .u8 0) := (blk_cell BK122.out 0).trans rfl; have hcz33_1 : w31.cell? ⟨gb122, 1, none⟩ = some (.int .u8 0) := (blk_cell BK122.out 1).trans rfl; have hcz33_2 : w31.cell? ⟨gb122, 2, none⟩ = some (.int .u8 0) := (blk_cell BK122.out 2).trans rfl; have hcz33_3 : w31.cell? ⟨gb122, 3, none⟩ = some (.int .u8 0) := (blk_cell BK122.out 3).trans rfl; have hcz33_4 : w31.cell? ⟨gb122, 4, none⟩ = some (.int .u8 0) := (blk_cell BK122.out 4).trans rfl; have hcz33_5 : w31.cell? ⟨gb122, 5, none⟩ = some (.int .u8 0) := (blk_cell BK122.out 5).trans rfl; have hcz33_6 : w31.cell? ⟨gb122, 6, none⟩ = some (.int .u8 0) := (blk_cell BK122.out 6).trans rfl; have hcz33_7 : w31.cell? ⟨gb122, 7, none⟩ = some (.int .u8 0) := (blk_cell BK122.out 7).trans rfl; have hcz33_8 : w31.cell? ⟨gb122, 8, none⟩ = some (.int .u8 0) := (blk_cell BK122.out 8).trans rfl; have hfz33_0 := blk_frozen BK122.out 0; have hfz33_1 := blk_frozen BK122.out 1; have hfz33_2 := blk_frozen BK122.out 2; have hfz33_3 := blk_frozen BK122.out 3; have hfz33_4 := blk_frozen BK122.out 4; have hfz33_5 := blk_frozen BK122.out 5; have hfz33_6 := blk_frozen BK122.out 6; have hfz33_7 := blk_frozen BK122.out 7; have hfz33_8 := blk_frozen BK122.out 8; have hcz34_0 : w31.cell? ⟨gb121, 0, none⟩ = some (.int .u8 0) := (blk_cell BK121.out 0).trans rfl; have hcz34_1 : w31.cell? ⟨gb121, 1, none⟩ = some (.int .u8 0) := (blk_cell BK121.out 1).trans rfl; have hcz34_2 : w31.cell? ⟨gb121, 2, none⟩ = some (.int .u8 0) := (blk_cell BK121.out 2).trans rfl; have hcz34_3 : w31.cell? ⟨gb121, 3, none⟩ = some (.int .u8 0) := (blk_cell BK121.out 3).trans rfl; have hcz34_4 : w31.cell? ⟨gb121, 4, none⟩ = some (.int .u8 0) := (blk_cell BK121.out 4).trans rfl; have hcz34_5 : w31.cell? ⟨gb121, 5, none⟩ = some (.int .u8 0) := (blk_cell BK121.out 5).trans rfl; have hcz34_6 : w31.cell? ⟨gb121, 6, none⟩ = some (.int .u8 0) := (blk_cell BK121.out 6).trans rfl; have hcz34_7 : w31.cell? ⟨gb121, 7, none⟩ = some (.int .u8 0) := (blk_cell BK121.out 7).trans rfl; have hcz34_8 : w31.cell? ⟨gb121, 8, none⟩ = some (.int .u8 0) := (blk_cell BK121.out 8).trans rfl; have hfz34_0 := blk_frozen BK121.out 0; have hfz34_1 := blk_frozen BK121.out 1; have hfz34_2 := blk_frozen BK121.out 2; have hfz34_3 := blk_frozen BK121.out 3; have hfz34_4 := blk_frozen BK121.out 4; have hfz34_5 := blk_frozen BK121.out 5; have hfz34_6 := blk_frozen BK121.out 6; have hfz34_7 := blk_frozen BK121.out 7; have hfz34_8 := blk_frozen BK121.out 8)))
    refine bodyPost_ret (results_ct rfl _ _ gb121 43 #[.int .u8 0, .int .u8 0, .int .u8 0, .int .u8 0, .int .u8 0, .int .u8 0, .int .u8 0, .int .u8 0, .int .u8 0] (0, 0) _ rfl (by (with_reducible repeat (first | refine blk_drewN ?_ _ | refine blk_drew ?_ | refine blk_alloc ?_ _)); refine blk_put (cs := #[.int .u8 0, .int .u8 0, .int .u8 0, .int .u8 0, .int .u8 0, .int .u8 0, .int .u8 0, .int .u8 0, .int .u8 0]) ?_ 8 _ rfl; (with_reducible repeat (first | refine blk_drewN ?_ _ | refine blk_drew ?_ | refine blk_alloc ?_ _)); refine blk_put (cs := #[.int .u8 0, .int .u8 0, .int .u8 0, .int .u8 0, .int .u8 0, .int .u8 0, .int .u8 0, .int .u8 0, .int .u8 0]) ?_ 7 _ rfl; (with_reducible repeat (first | refine blk_drewN ?_ _ | refine blk_drew ?_ | refine blk_alloc ?_ _)); refine blk_put (cs := #[.int .u8 0, .int .u8 0, .int .u8 0, .int .u8 0, .int .u8 0, .int .u8 0, .int .u8 0, .int .u8 0, .int .u8 0]) ?_ 6 _ rfl; (with_reducible repeat (first | refine blk_drewN ?_ _ | refine blk_drew ?_ | refine blk_alloc ?_ _)); refine blk_put (cs := #[.int .u8 0, .int .u8 0, .int .u8 0, .int .u8 0, .int .u8 0, .int .u8 0, .int .u8 0, .int .u8 0, .int .u8 0]) ?_ 5 _ rfl; (with_reducible repeat (first | refine blk_drewN ?_ _ | refine blk_drew ?_ | refine blk_alloc ?_ _)); refine blk_put (cs := #[.int .u8 0, .int .u8 0, .int .u8 0, .int .u8 0, .int .u8 0, .int .u8 0, .int .u8 0, .int .u8 0, .int .u8 0]) ?_ 4 _ rfl; (with_reducible repeat (first | refine blk_drewN ?_ _ | refine blk_drew ?_ | refine blk_alloc ?_ _)); refine blk_put (cs := #[.int .u8 0, .int .u8 0, .int .u8 0, .int .u8 0, .int .u8 0, .int .u8 0, .int .u8 0, .int .u8 0, .int .u8 0]) ?_ 3 _ rfl; (with_reducible repeat (first | refine blk_drewN ?_ _ | refine blk_drew ?_ | refine blk_alloc ?_ _)); refine blk_put (cs := #[.int .u8 0, .int .u8 0, .int .u8 0, .int .u8 0, .int .u8 0, .int .u8 0, .int .u8 0, .int .u8 0, .int .u8 0]) ?_ 2 _ rfl; (with_reducible repeat (first | refine blk_drewN ?_ _ | refine blk_drew ?_ | refine blk_alloc ?_ _)); refine blk_put (cs := #[.int .u8 0, .int .u8 0, .int .u8 0, .int .u8 0, .int .u8 0, .int .u8 0, .int .u8 0, .int .u8 0, .int .u8 0]) ?_ 1 _ rfl; (with_reducible repeat (first | refine blk_drewN ?_ _ | refine blk_drew ?_ | refine blk_alloc ?_ _)); refine blk_put (cs := #[.int .u8 0, .int .u8 0, .int .u8 0, .int .u8 0, .int .u8 0, .int .u8 0, .int .u8 0, .int .u8 0, .int .u8 0]) ?_ 0 _ rfl; (with_reducible repeat (first | refine blk_drewN ?_ _ | refine blk_drew ?_ | refine blk_alloc ?_ _)); exact BK121.out) Try.underlying43 rfl (by kernel_rfl)) rfl ?_
    exact ⟨by first | rfl | (simp [errW_none, errW_some] <;> rfl) | (simp [*, errW_none, errW_some] <;> rfl), by repeat (first | (with_reducible first | exact HB.out | apply below_alloc | apply pw_below_drewN | apply below_drew1 | refine below_set ?_ GE121.out | refine below_set ?_ GE122.out) | exact HB.out)⟩

/-! ### identity_number_right: function 31 -/
def identity_number_right.f (k : Nat) (a0_0 : Int) (a0_1 : Int) (a0_2 : Int) (a0_3 : Int) (a0_4 : Int) (a0_5 : Int) (a0_6 : Int) (a0_7 : Int) (a0_8 : Int) : Option (Bool) := (identity_number_check.f k a0_0 a0_1 a0_2 a0_3 a0_4 a0_5 a0_6 a0_7 a0_8).bind fun t126 => (some (a0_8 == t126))
theorem identity_number_right.mono : ∀ a0 a1 a2 a3 a4 a5 a6 a7 a8 k, LeO (identity_number_right.f k a0 a1 a2 a3 a4 a5 a6 a7 a8) (identity_number_right.f (k + 1) a0 a1 a2 a3 a4 a5 a6 a7 a8) := by
  intro a0 a1 a2 a3 a4 a5 a6 a7 a8 k
  unfold identity_number_right.f
  repeat' first
      | (with_reducible exact identity_number_check.mono _ _ _ _ _ _ _ _ _ _)
      | (with_reducible exact LeO.refl _)
      | (with_reducible exact LeO.none _)
      | (with_reducible refine LeO.ite ?_ ?_)
      | (with_reducible refine LeO.bind ?_ (fun _ => ?_))
      | exact identity_number_check.mono _ _ _ _ _ _ _ _ _ _
      | exact LeO.none _
      | refine LeO.ite ?_ ?_
      | refine LeO.bind ?_ (fun _ => ?_)
set_option maxHeartbeats 8000000 in
set_option maxRecDepth 100000 in
theorem identity_number_right.calls (k : Nat) (a0_0 : Int) (a0_1 : Int) (a0_2 : Int) (a0_3 : Int) (a0_4 : Int) (a0_5 : Int) (a0_6 : Int) (a0_7 : Int) (a0_8 : Int) (r : Bool) (w : World) (h : identity_number_right.f k a0_0 a0_1 a0_2 a0_3 a0_4 a0_5 a0_6 a0_7 a0_8 = some r) :
    Calls Try.prog 31 #[.agg #[.int .u8 a0_0, .int .u8 a0_1, .int .u8 a0_2, .int .u8 a0_3, .int .u8 a0_4, .int .u8 a0_5, .int .u8 a0_6, .int .u8 a0_7, .int .u8 a0_8]] w fun e w' => e = .returned (.bool r) ∧ Below w.heap.size w w' := by
  have hu43 := Try.underlying43
  have HB := Aside0.mk (Below.refl w.heap.size w)
  have H : ((identity_number_check.f k a0_0 a0_1 a0_2 a0_3 a0_4 a0_5 a0_6 a0_7 a0_8).bind fun t126 => (some (a0_8 == t126))) = some r := h
  clear h
  replace H := Option.bind_eq_some_iff.mp H
  obtain ⟨t126, A20, H⟩ := H
  replace H : (some (a0_8 == t126)) = some r := H
  have A2 := Aside0.mk A20
  clear A20
  obtain rfl := Option.some.inj H
  go_enter Try.func31, Try.ntmps31
  try go_wp2_with (first | ((with_reducible refine gate_dst (N := 1) rfl ?_); refine box_event ?hg (N := 1) ?hd (cs := #[.int .u8 a0_0, .int .u8 a0_1, .int .u8 a0_2, .int .u8 a0_3, .int .u8 a0_4, .int .u8 a0_5, .int .u8 a0_6, .int .u8 a0_7, .int .u8 a0_8]) (t := 43) ?hr ?_; (case hd => rfl); (case hg => rfl); (case hr => first | (go_simp; done) | (go_simp; rfl)); intro gb125 hg w3 hbox hb; have n0_ := Aside0.mk (below_step (by repeat (first | (with_reducible first | exact HB.out | apply below_alloc | apply pw_below_drewN | apply below_drew1) | exact HB.out)) hb); have n1_ := Aside0.mk (hbox); have n2_ := Aside0.mk ((by rw [hg]; exact (below_size (by repeat (first | (with_reducible first | exact HB.out | apply below_alloc | apply pw_below_drewN | apply below_drew1) | exact HB.out))) : w.heap.size ≤ gb125)); have n3_ := Aside0.mk ((by rw [hg]; exact (below_size (by repeat (first | (with_reducible first | exact HB.out | apply below_alloc | apply pw_below_drewN | apply below_drew1) | exact HB.out))) : w.heap.size ≤ gb125)); clear HB; have HB := n0_; have BK125 := n1_; have GW125 := n2_; have GE125 := n3_; clear n0_ n1_ n2_ n3_; clear hb hbox hg))
  have n0_ := Aside0.mk (blk_drew BK125.out)
  have n1_ := Aside0.mk (below_drew1 HB.out)
  clear BK125
  clear HB
  have BK125 := n0_
  have HB := n1_
  clear n0_ n1_
  refine start_ (n := 6) (S := fun w' => w'.cell? ⟨gb125, 0, none⟩ = some (.int .u8 a0_0) ∧ w'.cell? ⟨gb125, 1, none⟩ = some (.int .u8 a0_1) ∧ w'.cell? ⟨gb125, 2, none⟩ = some (.int .u8 a0_2) ∧ w'.cell? ⟨gb125, 3, none⟩ = some (.int .u8 a0_3) ∧ w'.cell? ⟨gb125, 4, none⟩ = some (.int .u8 a0_4) ∧ w'.cell? ⟨gb125, 5, none⟩ = some (.int .u8 a0_5) ∧ w'.cell? ⟨gb125, 6, none⟩ = some (.int .u8 a0_6) ∧ w'.cell? ⟨gb125, 7, none⟩ = some (.int .u8 a0_7) ∧ w'.cell? ⟨gb125, 8, none⟩ = some (.int .u8 a0_8)) (ds := []) #[false, false, false, false, false, false] (by kernel_rfl) rfl rfl ⟨(blk_cell BK125.out 0).trans rfl, (blk_cell BK125.out 1).trans rfl, (blk_cell BK125.out 2).trans rfl, (blk_cell BK125.out 3).trans rfl, (blk_cell BK125.out 4).trans rfl, (blk_cell BK125.out 5).trans rfl, (blk_cell BK125.out 6).trans rfl, (blk_cell BK125.out 7).trans rfl, (blk_cell BK125.out 8).trans rfl⟩ (fun hHeld => ?_)
  generalize w3.drew = w4 at BK125 HB hHeld ⊢
  refine pure_ (i := 0) (N := some 3) (v := ?_) (a' := ?_) #[true, false, false, false, false, false] rfl rfl (by kernel_rfl) (fun _ _ _ h => h) (Or.inl ⟨by rfl, ?_⟩) ?_ ?_
  rotate_left
  · intro w'
    go_simp
    with_reducible rfl
  rotate_left
  · simp only [Act.put, List.setIfInBounds_toArray, List.set_cons_zero, List.set_cons_succ, i64_w, i32_w]
    rfl
  refine take_ (i := 1) (N := some 4) (v := ?_) (a' := ?_) #[true, true, false, false, false, false] rfl rfl (by kernel_rfl) (fun _ _ _ h => h) (Or.inl ⟨by rfl, ?_⟩) hHeld ?_ ?_
  rotate_left
  · rintro w' ⟨s0, s1, s2, s3, s4, s5, s6, s7, s8⟩
    go_simp
    with_reducible rfl
  rotate_left
  · simp only [Act.put, List.setIfInBounds_toArray, List.set_cons_zero, List.set_cons_succ, i64_w, i32_w]
    rfl
  refine take_ (i := 2) (N := some 5) (v := ?_) (a' := ?_) #[true, true, true, false, false, false] rfl rfl (by kernel_rfl) (fun _ _ _ h => h) (Or.inl ⟨by rfl, ?_⟩) hHeld ?_ ?_
  rotate_left
  · rintro w' ⟨s0, s1, s2, s3, s4, s5, s6, s7, s8⟩
    go_simp
    with_reducible rfl
  rotate_left
  · simp only [Act.put, List.setIfInBounds_toArray, List.set_cons_zero, List.set_cons_succ, i64_w, i32_w]
    rfl
  refine one_ (i := 3) (N := some 6) #[true, true, true, true, false, false] rfl rfl (by kernel_rfl) (by decide) (fun K hK => ?_)
  refine goes_ Try.func28 (by kernel_rfl) rfl #[.agg #[.int .u8 a0_0, .int .u8 a0_1, .int .u8 a0_2, .int .u8 a0_3, .int .u8 a0_4, .int .u8 a0_5, .int .u8 a0_6, .int .u8 a0_7, .int .u8 a0_8]] (by rfl) rfl rfl (by (try simp only [List.map_toArray, List.map_cons, List.map_nil]); first | done | rfl | (simp only [List.length_drop, List.length_take]; rfl)) ?_
  with_reducible refine (identity_number_check.calls k a0_0 a0_1 a0_2 a0_3 a0_4 a0_5 a0_6 a0_7 a0_8 t126 _ A2.out).mono ?_
  rintro e w5 ⟨rfl, hb⟩
  refine ⟨_, rfl, ?_⟩
  have n0_ := Aside0.mk (blk_below (g := gb125) (o := .cells #[.int .u8 a0_0, .int .u8 a0_1, .int .u8 a0_2, .int .u8 a0_3, .int .u8 a0_4, .int .u8 a0_5, .int .u8 a0_6, .int .u8 a0_7, .int .u8 a0_8] 43 (0, 0)) (by (with_reducible repeat (first | refine blk_drewN ?_ _ | refine blk_drew ?_ | refine blk_alloc ?_ _)); exact BK125.out) hb)
  have n1_ := Aside0.mk (below_step (by repeat (first | (with_reducible first | exact HB.out | apply below_alloc | apply pw_below_drewN | apply below_drew1 | refine below_set ?_ GE125.out) | exact HB.out)) hb)
  clear BK125
  clear HB
  have BK125 := n0_
  have HB := n1_
  clear n0_ n1_
  (try clear hb)
  (try clear hb2)
  (try clear hk)
  (try clear hi)
  refine hK.out _ _ ⟨(blk_cell BK125.out 0).trans rfl, (blk_cell BK125.out 1).trans rfl, (blk_cell BK125.out 2).trans rfl, (blk_cell BK125.out 3).trans rfl, (blk_cell BK125.out 4).trans rfl, (blk_cell BK125.out 5).trans rfl, (blk_cell BK125.out 6).trans rfl, (blk_cell BK125.out 7).trans rfl, (blk_cell BK125.out 8).trans rfl⟩ (fun hHeld => ?_)
  clear hK K
  refine norm_ (a' := ?_) ?_ ?_
  rotate_left
  · show Act.put _ (some 6) _ = _
    simp only [Act.put, List.setIfInBounds_toArray, List.set_cons_zero, List.set_cons_succ, i64_w, i32_w]
    rfl
  refine pure_ (i := 4) (N := some 7) (v := ?_) (a' := ?_) #[true, true, true, true, true, false] rfl rfl (by kernel_rfl) (fun _ _ _ h => h) (Or.inl ⟨by rfl, ?_⟩) ?_ ?_
  rotate_left
  · intro w'
    go_simp
    with_reducible rfl
  rotate_left
  · simp only [Act.put, List.setIfInBounds_toArray, List.set_cons_zero, List.set_cons_succ, i64_w, i32_w]
    rfl
  refine pure_ (i := 5) (N := some 2) (v := ?_) (a' := ?_) #[true, true, true, true, true, true] rfl rfl (by kernel_rfl) (fun _ _ _ h => h) (Or.inl ⟨by rfl, ?_⟩) ?_ ?_
  rotate_left
  · intro w'
    go_simp
    with_reducible rfl
  rotate_left
  · simp only [Act.put, List.setIfInBounds_toArray, List.set_cons_zero, List.set_cons_succ, i64_w, i32_w]
    rfl
  refine done_ (by kernel_rfl) ?_
  try go_wp2
  go_ret
  exact ⟨by first | rfl | (simp [errW_none, errW_some] <;> rfl) | (simp [*, errW_none, errW_some] <;> rfl), by repeat (first | (with_reducible first | exact HB.out | apply below_alloc | apply pw_below_drewN | apply below_drew1 | refine below_set ?_ GE125.out) | exact HB.out)⟩

/-! ### identity_Parse: function 18 -/
def identity_Parse.l0 : Nat → Int → Int → Int → Int → Int → Int → Int → Int → Int → Int → Int → Int → Option (Int × Int × Int × Int)
  | 0, _, _, _, _, _, _, _, _, _, _, _, _ => none
  | k + 1, x6, x22, x23, x139000, x139001, x139002, x139003, x139004, x139005, x139006, x139007, x139008 => if x23 < x22 then (if 0 ≤ x23 then (if x23 < 8 then (identity_Parse.l0 k (wrap64 ((wrap64 (x6 * 10)) + (((ix9 x23 x139000 x139001 x139002 x139003 x139004 x139005 x139006 x139007 x139008) - 48) % 256))) x22 (wrap64 (x23 + 1)) x139000 x139001 x139002 x139003 x139004 x139005 x139006 x139007 x139008) else (none)) else (none)) else (some (wrap64 (Int.tdiv x6 1000000), Int.tmod (wrap64 (Int.tdiv x6 10000)) 100, Int.tmod x6 10000, 0))
def identity_Parse.f (k : Nat) (a0 : ByteArray) : Option (Int × Int × Int × Int) := (identity_read.f k a0 (⟨#[]⟩ : ByteArray)).bind fun bt128 => (if bt128.2.2.2.2.2.2.2.2.2 = true then ((identity_number_right.f k bt128.1 bt128.2.1 bt128.2.2.1 bt128.2.2.2.1 bt128.2.2.2.2.1 bt128.2.2.2.2.2.1 bt128.2.2.2.2.2.2.1 bt128.2.2.2.2.2.2.2.1 bt128.2.2.2.2.2.2.2.2.1).bind fun t139 => (if t139 = true then (identity_Parse.l0 k 0 8 0 bt128.1 bt128.2.1 bt128.2.2.1 bt128.2.2.2.1 bt128.2.2.2.2.1 bt128.2.2.2.2.2.1 bt128.2.2.2.2.2.2.1 bt128.2.2.2.2.2.2.2.1 bt128.2.2.2.2.2.2.2.2.1) else (some (0, 0, 0, 24)))) else (some (0, 0, 0, 7)))
theorem identity_Parse.mono_l : ∀ k, (∀ y0 y1 y2 y3 y4 y5 y6 y7 y8 y9 y10 y11, LeO (identity_Parse.l0 k y0 y1 y2 y3 y4 y5 y6 y7 y8 y9 y10 y11) (identity_Parse.l0 (k + 1) y0 y1 y2 y3 y4 y5 y6 y7 y8 y9 y10 y11))
  | 0 => fun _ _ _ _ _ _ _ _ _ _ _ _ r h => by simp [identity_Parse.l0] at h
  | k + 1 => by
    have ih0 := identity_Parse.mono_l k
    · intro y0 y1 y2 y3 y4 y5 y6 y7 y8 y9 y10 y11
      unfold identity_Parse.l0
      repeat' first
      | (with_reducible exact ih0 _ _ _ _ _ _ _ _ _ _ _ _)
      | (with_reducible exact identity_number_right.mono _ _ _ _ _ _ _ _ _ _)
      | (with_reducible exact identity_read.mono _ _ _)
      | (with_reducible exact LeO.refl _)
      | (with_reducible exact LeO.none _)
      | (with_reducible refine LeO.ite ?_ ?_)
      | (with_reducible refine LeO.bind ?_ (fun _ => ?_))
      | exact ih0 _ _ _ _ _ _ _ _ _ _ _ _
      | exact identity_number_right.mono _ _ _ _ _ _ _ _ _ _
      | exact identity_read.mono _ _ _
      | exact LeO.none _
      | refine LeO.ite ?_ ?_
      | refine LeO.bind ?_ (fun _ => ?_)
theorem identity_Parse.mono : ∀ a0 k, LeO (identity_Parse.f k a0) (identity_Parse.f (k + 1) a0) := by
  intro a0 k
  have ih0 := identity_Parse.mono_l k
  unfold identity_Parse.f
  repeat' first
      | (with_reducible exact ih0 _ _ _ _ _ _ _ _ _ _ _ _)
      | (with_reducible exact identity_number_right.mono _ _ _ _ _ _ _ _ _ _)
      | (with_reducible exact identity_read.mono _ _ _)
      | (with_reducible exact LeO.refl _)
      | (with_reducible exact LeO.none _)
      | (with_reducible refine LeO.ite ?_ ?_)
      | (with_reducible refine LeO.bind ?_ (fun _ => ?_))
      | exact ih0 _ _ _ _ _ _ _ _ _ _ _ _
      | exact identity_number_right.mono _ _ _ _ _ _ _ _ _ _
      | exact identity_read.mono _ _ _
      | exact LeO.none _
      | refine LeO.ite ?_ ?_
      | refine LeO.bind ?_ (fun _ => ?_)
set_option maxHeartbeats 8000000 in
set_option maxRecDepth 100000 in
theorem identity_Parse.calls (k : Nat) (a0 : ByteArray) (r1 : Int) (r2 : Int) (r3 : Int) (r4 : Int) (w : World) (h : identity_Parse.f k a0 = some (r1, r2, r3, r4)) :
    Calls Try.prog 18 #[.string a0] w fun e w' => e = .returned (.tuple #[.agg #[.int .i64 r1, .int .i64 r2, .int .i64 r3], .int .i64 r4]) ∧ Below w.heap.size w w' := by
  have hu23 := Try.underlying23
  have hu43 := Try.underlying43
  have HB := Aside0.mk (Below.refl w.heap.size w)
  have H : ((identity_read.f k a0 (⟨#[]⟩ : ByteArray)).bind fun bt128 => (if bt128.2.2.2.2.2.2.2.2.2 = true then ((identity_number_right.f k bt128.1 bt128.2.1 bt128.2.2.1 bt128.2.2.2.1 bt128.2.2.2.2.1 bt128.2.2.2.2.2.1 bt128.2.2.2.2.2.2.1 bt128.2.2.2.2.2.2.2.1 bt128.2.2.2.2.2.2.2.2.1).bind fun t139 => (if t139 = true then (identity_Parse.l0 k 0 8 0 bt128.1 bt128.2.1 bt128.2.2.1 bt128.2.2.2.1 bt128.2.2.2.2.1 bt128.2.2.2.2.2.1 bt128.2.2.2.2.2.2.1 bt128.2.2.2.2.2.2.2.1 bt128.2.2.2.2.2.2.2.2.1) else (some (0, 0, 0, 24)))) else (some (0, 0, 0, 7)))) = some (r1, r2, r3, r4) := h
  clear h
  replace H := Option.bind_eq_some_iff.mp H
  obtain ⟨⟨t128, t129, t130, t131, t132, t133, t134, t135, t136, t137⟩, A20, H⟩ := H
  replace H : (if t137 = true then ((identity_number_right.f k t128 t129 t130 t131 t132 t133 t134 t135 t136).bind fun t139 => (if t139 = true then (identity_Parse.l0 k 0 8 0 t128 t129 t130 t131 t132 t133 t134 t135 t136) else (some (0, 0, 0, 24)))) else (some (0, 0, 0, 7))) = some (r1, r2, r3, r4) := H
  have A2 := Aside0.mk A20
  clear A20
  by_cases c3 : t137 = true
  · subst c3
    have H1 : ((identity_number_right.f k t128 t129 t130 t131 t132 t133 t134 t135 t136).bind fun t139 => (if t139 = true then (identity_Parse.l0 k 0 8 0 t128 t129 t130 t131 t132 t133 t134 t135 t136) else (some (0, 0, 0, 24)))) = some (r1, r2, r3, r4) := by rw [if_pos rfl] at H; exact H
    clear H
    have H := H1
    clear H1
    replace H := Option.bind_eq_some_iff.mp H
    obtain ⟨t139, A40, H⟩ := H
    replace H : (if t139 = true then (identity_Parse.l0 k 0 8 0 t128 t129 t130 t131 t132 t133 t134 t135 t136) else (some (0, 0, 0, 24))) = some (r1, r2, r3, r4) := H
    have A4 := Aside0.mk A40
    clear A40
    by_cases c5 : t139 = true
    · subst c5
      have H1 : (identity_Parse.l0 k 0 8 0 t128 t129 t130 t131 t132 t133 t134 t135 t136) = some (r1, r2, r3, r4) := by rw [if_pos rfl] at H; exact H
      clear H
      have H := H1
      clear H1
      have H' := Aside0.mk H
      clear H
      go_enter Try.func18, Try.ntmps18
      go_wp2_with (first | ((with_reducible refine gate_dst (N := 2) rfl ?_); refine box_event ?hg (N := 2) ?hd (cs := #[.int .i64 0, .int .i64 0, .int .i64 0]) (t := 23) ?hr ?_; (case hd => rfl); (case hg => rfl); (case hr => first | (go_simp; done) | (go_simp; rfl)); intro gb127 hg w6 hbox hb; have n0_ := Aside0.mk (below_step (by repeat (first | (with_reducible first | exact HB.out | apply below_alloc | apply pw_below_drewN | apply below_drew1) | exact HB.out)) hb); have n1_ := Aside0.mk (hbox); have n2_ := Aside0.mk ((by rw [hg]; exact (below_size (by repeat (first | (with_reducible first | exact HB.out | apply below_alloc | apply pw_below_drewN | apply below_drew1) | exact HB.out))) : w.heap.size ≤ gb127)); have n3_ := Aside0.mk ((by rw [hg]; exact (below_size (by repeat (first | (with_reducible first | exact HB.out | apply below_alloc | apply pw_below_drewN | apply below_drew1) | exact HB.out))) : w.heap.size ≤ gb127)); clear HB; have HB := n0_; have BK127 := n1_; have GW127 := n2_; have GE127 := n3_; clear n0_ n1_ n2_ n3_; clear hb hbox hg) | ((with_reducible refine gate_callee (f := 30) rfl ?_); refine goesL_ (some 11) rfl rfl Try.func30 (by kernel_rfl) rfl #[.string a0, .string (⟨#[]⟩ : ByteArray)] rfl (by (try simp only [List.map_toArray, List.map_cons, List.map_nil]); first | done | rfl | (simp only [List.length_drop, List.length_take]; rfl)) ?_; (with_reducible refine (identity_read.calls k a0 (⟨#[]⟩ : ByteArray) t128 t129 t130 t131 t132 t133 t134 t135 t136 true _ A2.out).mono ?_); rintro e w7 ⟨rfl, hb⟩; refine ⟨_, rfl, ?_⟩; have n0_ := Aside0.mk (blk_below (g := gb127) (o := .cells #[.int .i64 0, .int .i64 0, .int .i64 0] 23 (0, 0)) (by (with_reducible repeat (first | refine blk_drewN ?_ _ | refine blk_drew ?_ | refine blk_alloc ?_ _)); exact BK127.out) hb); have n1_ := Aside0.mk (below_step (by repeat (first | (with_reducible first | exact HB.out | apply below_alloc | apply pw_below_drewN | apply below_drew1 | refine below_set ?_ GE127.out) | exact HB.out)) hb); clear BK127; clear HB; have BK127 := n0_; have HB := n1_; clear n0_ n1_; (try clear hb); (try clear hb2); (try clear hk); (try clear hi)) | ((with_reducible refine gate_dst (N := 4) rfl ?_); refine box_event ?hg (N := 4) ?hd (cs := #[.int .u8 0, .int .u8 0, .int .u8 0, .int .u8 0, .int .u8 0, .int .u8 0, .int .u8 0, .int .u8 0, .int .u8 0]) (t := 43) ?hr ?_; (case hd => rfl); (case hg => rfl); (case hr => first | (go_simp; done) | (go_simp; rfl)); intro gb138 hg w8 hbox hb; have n0_ := Aside0.mk (blk_below (g := gb127) (o := .cells #[.int .i64 0, .int .i64 0, .int .i64 0] 23 (0, 0)) (by (with_reducible repeat (first | refine blk_drewN ?_ _ | refine blk_drew ?_ | refine blk_alloc ?_ _)); exact BK127.out) hb); have n1_ := Aside0.mk (below_step (by repeat (first | (with_reducible first | exact HB.out | apply below_alloc | apply pw_below_drewN | apply below_drew1 | refine below_set ?_ GE127.out) | exact HB.out)) hb); have n2_ := Aside0.mk (hbox); have n3_ := Aside0.mk ((by rw [hg]; exact (below_size (by repeat (first | (with_reducible first | exact HB.out | apply below_alloc | apply pw_below_drewN | apply below_drew1 | refine below_set ?_ GE127.out) | exact HB.out))) : w.heap.size ≤ gb138)); have n4_ := Aside0.mk ((by rw [hg]; exact (below_size (by repeat (first | (with_reducible first | exact HB.out | apply below_alloc | apply pw_below_drewN | apply below_drew1 | refine below_set ?_ GE127.out) | exact HB.out))) : w.heap.size ≤ gb138)); have n5_ := Aside0.mk ((by rw [hg]; exact Nat.ne_of_lt (blk_lt (g := gb127) (o := .cells #[.int .i64 0, .int .i64 0, .int .i64 0] 23 (0, 0)) (by (with_reducible repeat (first | refine blk_drewN ?_ _ | refine blk_drew ?_ | refine blk_alloc ?_ _)); exact BK127.out)) : gb127 ≠ gb138)); have n6_ := Aside0.mk ((by rw [hg]; exact Nat.ne_of_gt (blk_lt (g := gb127) (o := .cells #[.int .i64 0, .int .i64 0, .int .i64 0] 23 (0, 0)) (by (with_reducible repeat (first | refine blk_drewN ?_ _ | refine blk_drew ?_ | refine blk_alloc ?_ _)); exact BK127.out)) : gb138 ≠ gb127)); clear BK127; clear HB; have BK127 := n0_; have HB := n1_; have BK138 := n2_; have GW138 := n3_; have GE138 := n4_; have NB127_138 := n5_; have NB138_127 := n6_; clear n0_ n1_ n2_ n3_ n4_ n5_ n6_; clear hb hbox hg; have hnb9 := NB138_127.out; have hnc9 := NB127_138.out; have hcz10_0 : w8.cell? ⟨gb138, 0, none⟩ = some (.int .u8 0) := (blk_cell BK138.out 0).trans rfl; have hcz10_1 : w8.cell? ⟨gb138, 1, none⟩ = some (.int .u8 0) := (blk_cell BK138.out 1).trans rfl; have hcz10_2 : w8.cell? ⟨gb138, 2, none⟩ = some (.int .u8 0) := (blk_cell BK138.out 2).trans rfl; have hcz10_3 : w8.cell? ⟨gb138, 3, none⟩ = some (.int .u8 0) := (blk_cell BK138.out 3).trans rfl; have hcz10_4 : w8.cell? ⟨gb138, 4, none⟩ = some (.int .u8 0) := (blk_cell BK138.out 4).trans rfl; have hcz10_5 : w8.cell? ⟨gb138, 5, none⟩ = some (.int .u8 0) := (blk_cell BK138.out 5).trans rfl; have hcz10_6 : w8.cell? ⟨gb138, 6, none⟩ = some (.int .u8 0) := (blk_cell BK138.out 6).trans rfl; have hcz10_7 : w8.cell? ⟨gb138, 7, none⟩ = some (.int .u8 0) := (blk_cell BK138.out 7).trans rfl; have hcz10_8 : w8.cell? ⟨gb138, 8, none⟩ = some (.int .u8 0) := (blk_cell BK138.out 8).trans rfl; have hfz10_0 := blk_frozen BK138.out 0; have hfz10_1 := blk_frozen BK138.out 1; have hfz10_2 := blk_frozen BK138.out 2; have hfz10_3 := blk_frozen BK138.out 3; have hfz10_4 := blk_frozen BK138.out 4; have hfz10_5 := blk_frozen BK138.out 5; have hfz10_6 := blk_frozen BK138.out 6; have hfz10_7 := blk_frozen BK138.out 7; have hfz10_8 := blk_frozen BK138.out 8) | ((with_reducible refine gate_callee (f := 31) rfl ?_); refine goesL_ (some 18) rfl rfl Try.func31 (by kernel_rfl) rfl #[.agg #[.int .u8 t128, .int .u8 t129, .int .u8 t130, .int .u8 t131, .int .u8 t132, .int .u8 t133, .int .u8 t134, .int .u8 t135, .int .u8 t136]] rfl (by (try simp only [List.map_toArray, List.map_cons, List.map_nil]); first | done | rfl | (simp only [List.length_drop, List.length_take]; rfl)) ?_; (with_reducible refine (identity_number_right.calls k t128 t129 t130 t131 t132 t133 t134 t135 t136 true _ A4.out).mono ?_); rintro e w11 ⟨rfl, hb⟩; refine ⟨_, rfl, ?_⟩; have n0_ := Aside0.mk (blk_below (g := gb127) (o := .cells #[.int .i64 0, .int .i64 0, .int .i64 0] 23 (0, 0)) (by (with_reducible repeat (first | refine blk_drewN ?_ _ | refine blk_drew ?_ | refine blk_alloc ?_ _)); refine blk_far ?_ NB127_138.out _; (with_reducible repeat (first | refine blk_drewN ?_ _ | refine blk_drew ?_ | refine blk_alloc ?_ _)); refine blk_far ?_ NB127_138.out _; (with_reducible repeat (first | refine blk_drewN ?_ _ | refine blk_drew ?_ | refine blk_alloc ?_ _)); refine blk_far ?_ NB127_138.out _; (with_reducible repeat (first | refine blk_drewN ?_ _ | refine blk_drew ?_ | refine blk_alloc ?_ _)); refine blk_far ?_ NB127_138.out _; (with_reducible repeat (first | refine blk_drewN ?_ _ | refine blk_drew ?_ | refine blk_alloc ?_ _)); refine blk_far ?_ NB127_138.out _; (with_reducible repeat (first | refine blk_drewN ?_ _ | refine blk_drew ?_ | refine blk_alloc ?_ _)); refine blk_far ?_ NB127_138.out _; (with_reducible repeat (first | refine blk_drewN ?_ _ | refine blk_drew ?_ | refine blk_alloc ?_ _)); refine blk_far ?_ NB127_138.out _; (with_reducible repeat (first | refine blk_drewN ?_ _ | refine blk_drew ?_ | refine blk_alloc ?_ _)); refine blk_far ?_ NB127_138.out _; (with_reducible repeat (first | refine blk_drewN ?_ _ | refine blk_drew ?_ | refine blk_alloc ?_ _)); refine blk_far ?_ NB127_138.out _; (with_reducible repeat (first | refine blk_drewN ?_ _ | refine blk_drew ?_ | refine blk_alloc ?_ _)); exact BK127.out) hb); have n1_ := Aside0.mk (blk_below (g := gb138) (o := .cells #[.int .u8 t128, .int .u8 t129, .int .u8 t130, .int .u8 t131, .int .u8 t132, .int .u8 t133, .int .u8 t134, .int .u8 t135, .int .u8 t136] 43 (0, 0)) (by (with_reducible repeat (first | refine blk_drewN ?_ _ | refine blk_drew ?_ | refine blk_alloc ?_ _)); refine blk_put (cs := #[.int .u8 t128, .int .u8 t129, .int .u8 t130, .int .u8 t131, .int .u8 t132, .int .u8 t133, .int .u8 t134, .int .u8 t135, .int .u8 0]) ?_ 8 _ rfl; (with_reducible repeat (first | refine blk_drewN ?_ _ | refine blk_drew ?_ | refine blk_alloc ?_ _)); refine blk_put (cs := #[.int .u8 t128, .int .u8 t129, .int .u8 t130, .int .u8 t131, .int .u8 t132, .int .u8 t133, .int .u8 t134, .int .u8 0, .int .u8 0]) ?_ 7 _ rfl; (with_reducible repeat (first | refine blk_drewN ?_ _ | refine blk_drew ?_ | refine blk_alloc ?_ _)); refine blk_put (cs := #[.int .u8 t128, .int .u8 t129, .int .u8 t130, .int .u8 t131, .int .u8 t132, .int .u8 t133, .int .u8 0, .int .u8 0, .int .u8 0]) ?_ 6 _ rfl; (with_reducible repeat (first | refine blk_drewN ?_ _ | refine blk_drew ?_ | refine blk_alloc ?_ _)); refine blk_put (cs := #[.int .u8 t128, .int .u8 t129, .int .u8 t130, .int .u8 t131, .int .u8 t132, .int .u8 0, .int .u8 0, .int .u8 0, .int .u8 0]) ?_ 5 _ rfl; (with_reducible repeat (first | refine blk_drewN ?_ _ | refine blk_drew ?_ | refine blk_alloc ?_ _)); refine blk_put (cs := #[.int .u8 t128, .int .u8 t129, .int .u8 t130, .int .u8 t131, .int .u8 0, .int .u8 0, .int .u8 0, .int .u8 0, .int .u8 0]) ?_ 4 _ rfl; (with_reducible repeat (first | refine blk_drewN ?_ _ | refine blk_drew ?_ | refine blk_alloc ?_ _)); refine blk_put (cs := #[.int .u8 t128, .int .u8 t129, .int .u8 t130, .int .u8 0, .int .u8 0, .int .u8 0, .int .u8 0, .int .u8 0, .int .u8 0]) ?_ 3 _ rfl; (with_reducible repeat (first | refine blk_drewN ?_ _ | refine blk_drew ?_ | refine blk_alloc ?_ _)); refine blk_put (cs := #[.int .u8 t128, .int .u8 t129, .int .u8 0, .int .u8 0, .int .u8 0, .int .u8 0, .int .u8 0, .int .u8 0, .int .u8 0]) ?_ 2 _ rfl; (with_reducible repeat (first | refine blk_drewN ?_ _ | refine blk_drew ?_ | refine blk_alloc ?_ _)); refine blk_put (cs := #[.int .u8 t128, .int .u8 0, .int .u8 0, .int .u8 0, .int .u8 0, .int .u8 0, .int .u8 0, .int .u8 0, .int .u8 0]) ?_ 1 _ rfl; (with_reducible repeat (first | refine blk_drewN ?_ _ | refine blk_drew ?_ | refine blk_alloc ?_ _)); refine blk_put (cs := #[.int .u8 0, .int .u8 0, .int .u8 0, .int .u8 0, .int .u8 0, .int .u8 0, .int .u8 0, .int .u8 0, .int .u8 0]) ?_ 0 _ rfl; (with_reducible repeat (first | refine blk_drewN ?_ _ | refine blk_drew ?_ | refine blk_alloc ?_ _)); exact BK138.out) hb); have n2_ := Aside0.mk (below_step (by repeat (first | (with_reducible first | exact HB.out | apply below_alloc | apply pw_below_drewN | apply below_drew1 | refine below_set ?_ GE127.out | refine below_set ?_ GE138.out) | exact HB.out)) hb); clear BK127; clear BK138; clear HB; have BK127 := n0_; have BK138 := n1_; have HB := n2_; clear n0_ n1_ n2_; (try clear hb); (try clear hb2); (try clear hk); (try clear hi)))
      go_loopg [6, 23] k (fun kq v6 v23 w' => ∃ (x6_1 : Int) (x23_1 : Int), v6 = .int .i64 x6_1 ∧ v23 = .int .i64 x23_1 ∧ Aside0 (identity_Parse.l0 kq x6_1 8 x23_1 t128 t129 t130 t131 t132 t133 t134 t135 t136 = some (r1, r2, r3, r4)) ∧ Aside0 (kq ≤ k) ∧ Aside0 (w'.heap[gb127]? = some (.cells #[.int .i64 0, .int .i64 0, .int .i64 0] 23 (0, 0))) ∧ Aside0 (w'.heap[gb138]? = some (.cells #[.int .u8 t128, .int .u8 t129, .int .u8 t130, .int .u8 t131, .int .u8 t132, .int .u8 t133, .int .u8 t134, .int .u8 t135, .int .u8 t136] 43 (0, 0))) ∧ Aside0 (Below w.heap.size w w'))
      case atStart => exact ⟨(0), (0), (by first | rfl | (simp; done) | (simp [*]; done)), (by first | rfl | (simp; done) | (simp [*]; done)), H', ⟨Nat.le_refl _⟩, ⟨by (with_reducible repeat (first | refine blk_drewN ?_ _ | refine blk_drew ?_ | refine blk_alloc ?_ _)); exact BK127.out⟩, ⟨by (with_reducible repeat (first | refine blk_drewN ?_ _ | refine blk_drew ?_ | refine blk_alloc ?_ _)); exact BK138.out⟩, ⟨by repeat (first | (with_reducible first | exact HB.out | apply below_alloc | apply pw_below_drewN | apply below_drew1 | refine below_set ?_ GE127.out | refine below_set ?_ GE138.out) | exact HB.out)⟩⟩
      case round =>
        clear H'
        try clear c1
        try clear p2
        try clear c3
        try clear c5
        try clear c9
        try clear hcz10_0
        try clear hcz10_1
        try clear hcz10_2
        try clear hcz10_3
        try clear hcz10_4
        try clear hcz10_5
        try clear hcz10_6
        try clear hcz10_7
        try clear hcz10_8
        try clear hfz10_0
        try clear hfz10_1
        try clear hfz10_2
        try clear hfz10_3
        try clear hfz10_4
        try clear hfz10_5
        try clear hfz10_6
        try clear hfz10_7
        try clear hfz10_8
        obtain ⟨x6_1, x23_1, rfl, rfl, HA, HK1, BK127, BK138, HB⟩ := hrel
        cases gk with
        | zero => exact absurd HA.out (by simp [identity_Parse.l0])
        | succ k1 =>
          have H := HA.out
          clear HA
          simp only [identity_Parse.l0] at H
          by_cases c12 : x23_1 < 8
          · rw [if_pos c12] at H
            have c12b0 : decide (x23_1 < 8) = true := decide_eq_true c12
            clear c12
            by_cases c13 : 0 ≤ x23_1
            · rw [if_pos c13] at H
              have c13b0 : decide (0 ≤ x23_1) = true := decide_eq_true c13
              clear c13
              by_cases c14 : x23_1 < 8
              · rw [if_pos c14] at H
                have c14b0 : decide (x23_1 < 8) = true := decide_eq_true c14
                clear c14
                have H' := Aside0.mk H
                clear H
                have hnb15 := NB138_127.out
                have hnc15 := NB127_138.out
                have hcz16_0 : wr.cell? ⟨gb138, 0, none⟩ = some (.int .u8 t128) := (blk_cell BK138.out 0).trans rfl
                have hcz16_1 : wr.cell? ⟨gb138, 1, none⟩ = some (.int .u8 t129) := (blk_cell BK138.out 1).trans rfl
                have hcz16_2 : wr.cell? ⟨gb138, 2, none⟩ = some (.int .u8 t130) := (blk_cell BK138.out 2).trans rfl
                have hcz16_3 : wr.cell? ⟨gb138, 3, none⟩ = some (.int .u8 t131) := (blk_cell BK138.out 3).trans rfl
                have hcz16_4 : wr.cell? ⟨gb138, 4, none⟩ = some (.int .u8 t132) := (blk_cell BK138.out 4).trans rfl
                have hcz16_5 : wr.cell? ⟨gb138, 5, none⟩ = some (.int .u8 t133) := (blk_cell BK138.out 5).trans rfl
                have hcz16_6 : wr.cell? ⟨gb138, 6, none⟩ = some (.int .u8 t134) := (blk_cell BK138.out 6).trans rfl
                have hcz16_7 : wr.cell? ⟨gb138, 7, none⟩ = some (.int .u8 t135) := (blk_cell BK138.out 7).trans rfl
                have hcz16_8 : wr.cell? ⟨gb138, 8, none⟩ = some (.int .u8 t136) := (blk_cell BK138.out 8).trans rfl
                have hfz16_0 := blk_frozen BK138.out 0
                have hfz16_1 := blk_frozen BK138.out 1
                have hfz16_2 := blk_frozen BK138.out 2
                have hfz16_3 := blk_frozen BK138.out 3
                have hfz16_4 := blk_frozen BK138.out 4
                have hfz16_5 := blk_frozen BK138.out 5
                have hfz16_6 := blk_frozen BK138.out 6
                have hfz16_7 := blk_frozen BK138.out 7
                have hfz16_8 := blk_frozen BK138.out 8
                have p17 : 0 ≤ (x23_1 : Int) := of_decide_eq_true (by first | (with_reducible assumption) | assumption)
                have q17 : (x23_1 : Int) < 8 := of_decide_eq_true (by first | (with_reducible assumption) | assumption)
                have hx17 : wr.cell? ⟨gb138, (x23_1).toNat, none⟩ = some (.int .u8 (ix9 x23_1 t128 t129 t130 t131 t132 t133 t134 t135 t136)) := ixcell9 BK138.out (decide_eq_true p17) (decide_eq_true (Int.lt_of_lt_of_le q17 (by decide)))
                replace p17 := eq_true p17
                replace q17 := eq_true q17
                go_wp2
                go_roundg k1
                case measure => have := HK1.out; omega
                case rel => exact ⟨(wrap64 ((wrap64 (x6_1 * 10)) + (((ix9 x23_1 t128 t129 t130 t131 t132 t133 t134 t135 t136) - 48) % 256))), (wrap64 (x23_1 + 1)), (by first | rfl | (simp; done) | (simp [*]; done)), (by first | rfl | (simp; done) | (simp [*]; done)), H', ⟨by have := HK1.out; omega⟩, ⟨by (with_reducible repeat (first | refine blk_drewN ?_ _ | refine blk_drew ?_ | refine blk_alloc ?_ _)); exact BK127.out⟩, ⟨by (with_reducible repeat (first | refine blk_drewN ?_ _ | refine blk_drew ?_ | refine blk_alloc ?_ _)); exact BK138.out⟩, ⟨by repeat (first | (with_reducible first | exact HB.out | apply below_alloc | apply pw_below_drewN | apply below_drew1 | refine below_set ?_ GE127.out | refine below_set ?_ GE138.out) | exact HB.out)⟩⟩
              · rw [if_neg c14] at H
                exact absurd H (by simp)
            · rw [if_neg c13] at H
              exact absurd H (by simp)
          · rw [if_neg c12] at H
            have c12b0 : decide (x23_1 < 8) = false := decide_eq_false c12
            clear c12
            simp only [Option.some.injEq, Prod.mk.injEq] at H
            obtain ⟨rfl, rfl, rfl, rfl⟩ := H
            have hnb18 := NB127_138.out
            have hnc18 := NB138_127.out
            have hcz19_0 : wr.cell? ⟨gb127, 0, none⟩ = some (.int .i64 0) := (blk_cell BK127.out 0).trans rfl
            have hcz19_1 : wr.cell? ⟨gb127, 1, none⟩ = some (.int .i64 0) := (blk_cell BK127.out 1).trans rfl
            have hcz19_2 : wr.cell? ⟨gb127, 2, none⟩ = some (.int .i64 0) := (blk_cell BK127.out 2).trans rfl
            have hfz19_0 := blk_frozen BK127.out 0
            have hfz19_1 := blk_frozen BK127.out 1
            have hfz19_2 := blk_frozen BK127.out 2
            go_wp2
            refine bodyPost_ret (results_ct rfl _ _ gb127 23 #[.int .i64 (wrap64 (Int.tdiv x6_1 1000000)), .int .i64 (Int.tmod (wrap64 (Int.tdiv x6_1 10000)) 100), .int .i64 (Int.tmod x6_1 10000)] (0, 0) _ rfl (by (with_reducible repeat (first | refine blk_drewN ?_ _ | refine blk_drew ?_ | refine blk_alloc ?_ _)); refine blk_put (cs := #[.int .i64 (wrap64 (Int.tdiv x6_1 1000000)), .int .i64 (Int.tmod (wrap64 (Int.tdiv x6_1 10000)) 100), .int .i64 0]) ?_ 2 _ rfl; (with_reducible repeat (first | refine blk_drewN ?_ _ | refine blk_drew ?_ | refine blk_alloc ?_ _)); refine blk_put (cs := #[.int .i64 (wrap64 (Int.tdiv x6_1 1000000)), .int .i64 0, .int .i64 0]) ?_ 1 _ rfl; (with_reducible repeat (first | refine blk_drewN ?_ _ | refine blk_drew ?_ | refine blk_alloc ?_ _)); refine blk_put (cs := #[.int .i64 0, .int .i64 0, .int .i64 0]) ?_ 0 _ rfl; (with_reducible repeat (first | refine blk_drewN ?_ _ | refine blk_drew ?_ | refine blk_alloc ?_ _)); exact BK127.out) Try.underlying23 rfl (by kernel_rfl)) rfl ?_
            exact ⟨by first | rfl | (simp [errW_none, errW_some] <;> rfl) | (simp [*, errW_none, errW_some] <;> rfl), by repeat (first | (with_reducible first | exact HB.out | apply below_alloc | apply pw_below_drewN | apply below_drew1 | refine below_set ?_ GE127.out | refine below_set ?_ GE138.out) | exact HB.out)⟩
    · replace c5 := Bool.eq_false_iff.mpr c5
      subst c5
      have H1 : (some (0, 0, 0, 24)) = some (r1, r2, r3, r4) := by rw [if_neg (show ¬ (false = true) by decide)] at H; exact H
      clear H
      have H := H1
      clear H1
      simp only [Option.some.injEq, Prod.mk.injEq] at H
      obtain ⟨rfl, rfl, rfl, rfl⟩ := H
      go_enter Try.func18, Try.ntmps18
      go_wp2_with (first | ((with_reducible refine gate_dst (N := 2) rfl ?_); refine box_event ?hg (N := 2) ?hd (cs := #[.int .i64 0, .int .i64 0, .int .i64 0]) (t := 23) ?hr ?_; (case hd => rfl); (case hg => rfl); (case hr => first | (go_simp; done) | (go_simp; rfl)); intro gb127 hg w20 hbox hb; have n0_ := Aside0.mk (below_step (by repeat (first | (with_reducible first | exact HB.out | apply below_alloc | apply pw_below_drewN | apply below_drew1) | exact HB.out)) hb); have n1_ := Aside0.mk (hbox); have n2_ := Aside0.mk ((by rw [hg]; exact (below_size (by repeat (first | (with_reducible first | exact HB.out | apply below_alloc | apply pw_below_drewN | apply below_drew1) | exact HB.out))) : w.heap.size ≤ gb127)); have n3_ := Aside0.mk ((by rw [hg]; exact (below_size (by repeat (first | (with_reducible first | exact HB.out | apply below_alloc | apply pw_below_drewN | apply below_drew1) | exact HB.out))) : w.heap.size ≤ gb127)); clear HB; have HB := n0_; have BK127 := n1_; have GW127 := n2_; have GE127 := n3_; clear n0_ n1_ n2_ n3_; clear hb hbox hg) | ((with_reducible refine gate_callee (f := 30) rfl ?_); refine goesL_ (some 11) rfl rfl Try.func30 (by kernel_rfl) rfl #[.string a0, .string (⟨#[]⟩ : ByteArray)] rfl (by (try simp only [List.map_toArray, List.map_cons, List.map_nil]); first | done | rfl | (simp only [List.length_drop, List.length_take]; rfl)) ?_; (with_reducible refine (identity_read.calls k a0 (⟨#[]⟩ : ByteArray) t128 t129 t130 t131 t132 t133 t134 t135 t136 true _ A2.out).mono ?_); rintro e w21 ⟨rfl, hb⟩; refine ⟨_, rfl, ?_⟩; have n0_ := Aside0.mk (blk_below (g := gb127) (o := .cells #[.int .i64 0, .int .i64 0, .int .i64 0] 23 (0, 0)) (by (with_reducible repeat (first | refine blk_drewN ?_ _ | refine blk_drew ?_ | refine blk_alloc ?_ _)); exact BK127.out) hb); have n1_ := Aside0.mk (below_step (by repeat (first | (with_reducible first | exact HB.out | apply below_alloc | apply pw_below_drewN | apply below_drew1 | refine below_set ?_ GE127.out) | exact HB.out)) hb); clear BK127; clear HB; have BK127 := n0_; have HB := n1_; clear n0_ n1_; (try clear hb); (try clear hb2); (try clear hk); (try clear hi)) | ((with_reducible refine gate_dst (N := 4) rfl ?_); refine box_event ?hg (N := 4) ?hd (cs := #[.int .u8 0, .int .u8 0, .int .u8 0, .int .u8 0, .int .u8 0, .int .u8 0, .int .u8 0, .int .u8 0, .int .u8 0]) (t := 43) ?hr ?_; (case hd => rfl); (case hg => rfl); (case hr => first | (go_simp; done) | (go_simp; rfl)); intro gb138 hg w22 hbox hb; have n0_ := Aside0.mk (blk_below (g := gb127) (o := .cells #[.int .i64 0, .int .i64 0, .int .i64 0] 23 (0, 0)) (by (with_reducible repeat (first | refine blk_drewN ?_ _ | refine blk_drew ?_ | refine blk_alloc ?_ _)); exact BK127.out) hb); have n1_ := Aside0.mk (below_step (by repeat (first | (with_reducible first | exact HB.out | apply below_alloc | apply pw_below_drewN | apply below_drew1 | refine below_set ?_ GE127.out) | exact HB.out)) hb); have n2_ := Aside0.mk (hbox); have n3_ := Aside0.mk ((by rw [hg]; exact (below_size (by repeat (first | (with_reducible first | exact HB.out | apply below_alloc | apply pw_below_drewN | apply below_drew1 | refine below_set ?_ GE127.out) | exact HB.out))) : w.heap.size ≤ gb138)); have n4_ := Aside0.mk ((by rw [hg]; exact (below_size (by repeat (first | (with_reducible first | exact HB.out | apply below_alloc | apply pw_below_drewN | apply below_drew1 | refine below_set ?_ GE127.out) | exact HB.out))) : w.heap.size ≤ gb138)); have n5_ := Aside0.mk ((by rw [hg]; exact Nat.ne_of_lt (blk_lt (g := gb127) (o := .cells #[.int .i64 0, .int .i64 0, .int .i64 0] 23 (0, 0)) (by (with_reducible repeat (first | refine blk_drewN ?_ _ | refine blk_drew ?_ | refine blk_alloc ?_ _)); exact BK127.out)) : gb127 ≠ gb138)); have n6_ := Aside0.mk ((by rw [hg]; exact Nat.ne_of_gt (blk_lt (g := gb127) (o := .cells #[.int .i64 0, .int .i64 0, .int .i64 0] 23 (0, 0)) (by (with_reducible repeat (first | refine blk_drewN ?_ _ | refine blk_drew ?_ | refine blk_alloc ?_ _)); exact BK127.out)) : gb138 ≠ gb127)); clear BK127; clear HB; have BK127 := n0_; have HB := n1_; have BK138 := n2_; have GW138 := n3_; have GE138 := n4_; have NB127_138 := n5_; have NB138_127 := n6_; clear n0_ n1_ n2_ n3_ n4_ n5_ n6_; clear hb hbox hg; have hnb23 := NB138_127.out; have hnc23 := NB127_138.out; have hcz24_0 : w22.cell? ⟨gb138, 0, none⟩ = some (.int .u8 0) := (blk_cell BK138.out 0).trans rfl; have hcz24_1 : w22.cell? ⟨gb138, 1, none⟩ = some (.int .u8 0) := (blk_cell BK138.out 1).trans rfl; have hcz24_2 : w22.cell? ⟨gb138, 2, none⟩ = some (.int .u8 0) := (blk_cell BK138.out 2).trans rfl; have hcz24_3 : w22.cell? ⟨gb138, 3, none⟩ = some (.int .u8 0) := (blk_cell BK138.out 3).trans rfl; have hcz24_4 : w22.cell? ⟨gb138, 4, none⟩ = some (.int .u8 0) := (blk_cell BK138.out 4).trans rfl; have hcz24_5 : w22.cell? ⟨gb138, 5, none⟩ = some (.int .u8 0) := (blk_cell BK138.out 5).trans rfl; have hcz24_6 : w22.cell? ⟨gb138, 6, none⟩ = some (.int .u8 0) := (blk_cell BK138.out 6).trans rfl; have hcz24_7 : w22.cell? ⟨gb138, 7, none⟩ = some (.int .u8 0) := (blk_cell BK138.out 7).trans rfl; have hcz24_8 : w22.cell? ⟨gb138, 8, none⟩ = some (.int .u8 0) := (blk_cell BK138.out 8).trans rfl; have hfz24_0 := blk_frozen BK138.out 0; have hfz24_1 := blk_frozen BK138.out 1; have hfz24_2 := blk_frozen BK138.out 2; have hfz24_3 := blk_frozen BK138.out 3; have hfz24_4 := blk_frozen BK138.out 4; have hfz24_5 := blk_frozen BK138.out 5; have hfz24_6 := blk_frozen BK138.out 6; have hfz24_7 := blk_frozen BK138.out 7; have hfz24_8 := blk_frozen BK138.out 8) | ((with_reducible refine gate_callee (f := 31) rfl ?_); refine goesL_ (some 18) rfl rfl Try.func31 (by kernel_rfl) rfl #[.agg #[.int .u8 t128, .int .u8 t129, .int .u8 t130, .int .u8 t131, .int .u8 t132, .int .u8 t133, .int .u8 t134, .int .u8 t135, .int .u8 t136]] rfl (by (try simp only [List.map_toArray, List.map_cons, List.map_nil]); first | done | rfl | (simp only [List.length_drop, List.length_take]; rfl)) ?_; (with_reducible refine (identity_number_right.calls k t128 t129 t130 t131 t132 t133 t134 t135 t136 false _ A4.out).mono ?_); rintro e w25 ⟨rfl, hb⟩; refine ⟨_, rfl, ?_⟩; have n0_ := Aside0.mk (blk_below (g := gb127) (o := .cells #[.int .i64 0, .int .i64 0, .int .i64 0] 23 (0, 0)) (by (with_reducible repeat (first | refine blk_drewN ?_ _ | refine blk_drew ?_ | refine blk_alloc ?_ _)); refine blk_far ?_ NB127_138.out _; (with_reducible repeat (first | refine blk_drewN ?_ _ | refine blk_drew ?_ | refine blk_alloc ?_ _)); refine blk_far ?_ NB127_138.out _; (with_reducible repeat (first | refine blk_drewN ?_ _ | refine blk_drew ?_ | refine blk_alloc ?_ _)); refine blk_far ?_ NB127_138.out _; (with_reducible repeat (first | refine blk_drewN ?_ _ | refine blk_drew ?_ | refine blk_alloc ?_ _)); refine blk_far ?_ NB127_138.out _; (with_reducible repeat (first | refine blk_drewN ?_ _ | refine blk_drew ?_ | refine blk_alloc ?_ _)); refine blk_far ?_ NB127_138.out _; (with_reducible repeat (first | refine blk_drewN ?_ _ | refine blk_drew ?_ | refine blk_alloc ?_ _)); refine blk_far ?_ NB127_138.out _; (with_reducible repeat (first | refine blk_drewN ?_ _ | refine blk_drew ?_ | refine blk_alloc ?_ _)); refine blk_far ?_ NB127_138.out _; (with_reducible repeat (first | refine blk_drewN ?_ _ | refine blk_drew ?_ | refine blk_alloc ?_ _)); refine blk_far ?_ NB127_138.out _; (with_reducible repeat (first | refine blk_drewN ?_ _ | refine blk_drew ?_ | refine blk_alloc ?_ _)); refine blk_far ?_ NB127_138.out _; (with_reducible repeat (first | refine blk_drewN ?_ _ | refine blk_drew ?_ | refine blk_alloc ?_ _)); exact BK127.out) hb); have n1_ := Aside0.mk (blk_below (g := gb138) (o := .cells #[.int .u8 t128, .int .u8 t129, .int .u8 t130, .int .u8 t131, .int .u8 t132, .int .u8 t133, .int .u8 t134, .int .u8 t135, .int .u8 t136] 43 (0, 0)) (by (with_reducible repeat (first | refine blk_drewN ?_ _ | refine blk_drew ?_ | refine blk_alloc ?_ _)); refine blk_put (cs := #[.int .u8 t128, .int .u8 t129, .int .u8 t130, .int .u8 t131, .int .u8 t132, .int .u8 t133, .int .u8 t134, .int .u8 t135, .int .u8 0]) ?_ 8 _ rfl; (with_reducible repeat (first | refine blk_drewN ?_ _ | refine blk_drew ?_ | refine blk_alloc ?_ _)); refine blk_put (cs := #[.int .u8 t128, .int .u8 t129, .int .u8 t130, .int .u8 t131, .int .u8 t132, .int .u8 t133, .int .u8 t134, .int .u8 0, .int .u8 0]) ?_ 7 _ rfl; (with_reducible repeat (first | refine blk_drewN ?_ _ | refine blk_drew ?_ | refine blk_alloc ?_ _)); refine blk_put (cs := #[.int .u8 t128, .int .u8 t129, .int .u8 t130, .int .u8 t131, .int .u8 t132, .int .u8 t133, .int .u8 0, .int .u8 0, .int .u8 0]) ?_ 6 _ rfl; (with_reducible repeat (first | refine blk_drewN ?_ _ | refine blk_drew ?_ | refine blk_alloc ?_ _)); refine blk_put (cs := #[.int .u8 t128, .int .u8 t129, .int .u8 t130, .int .u8 t131, .int .u8 t132, .int .u8 0, .int .u8 0, .int .u8 0, .int .u8 0]) ?_ 5 _ rfl; (with_reducible repeat (first | refine blk_drewN ?_ _ | refine blk_drew ?_ | refine blk_alloc ?_ _)); refine blk_put (cs := #[.int .u8 t128, .int .u8 t129, .int .u8 t130, .int .u8 t131, .int .u8 0, .int .u8 0, .int .u8 0, .int .u8 0, .int .u8 0]) ?_ 4 _ rfl; (with_reducible repeat (first | refine blk_drewN ?_ _ | refine blk_drew ?_ | refine blk_alloc ?_ _)); refine blk_put (cs := #[.int .u8 t128, .int .u8 t129, .int .u8 t130, .int .u8 0, .int .u8 0, .int .u8 0, .int .u8 0, .int .u8 0, .int .u8 0]) ?_ 3 _ rfl; (with_reducible repeat (first | refine blk_drewN ?_ _ | refine blk_drew ?_ | refine blk_alloc ?_ _)); refine blk_put (cs := #[.int .u8 t128, .int .u8 t129, .int .u8 0, .int .u8 0, .int .u8 0, .int .u8 0, .int .u8 0, .int .u8 0, .int .u8 0]) ?_ 2 _ rfl; (with_reducible repeat (first | refine blk_drewN ?_ _ | refine blk_drew ?_ | refine blk_alloc ?_ _)); refine blk_put (cs := #[.int .u8 t128, .int .u8 0, .int .u8 0, .int .u8 0, .int .u8 0, .int .u8 0, .int .u8 0, .int .u8 0, .int .u8 0]) ?_ 1 _ rfl; (with_reducible repeat (first | refine blk_drewN ?_ _ | refine blk_drew ?_ | refine blk_alloc ?_ _)); refine blk_put (cs := #[.int .u8 0, .int .u8 0, .int .u8 0, .int .u8 0, .int .u8 0, .int .u8 0, .int .u8 0, .int .u8 0, .int .u8 0]) ?_ 0 _ rfl; (with_reducible repeat (first | refine blk_drewN ?_ _ | refine blk_drew ?_ | refine blk_alloc ?_ _)); exact BK138.out) hb); have n2_ := Aside0.mk (below_step (by repeat (first | (with_reducible first | exact HB.out | apply below_alloc | apply pw_below_drewN | apply below_drew1 | refine below_set ?_ GE127.out | refine below_set ?_ GE138.out) | exact HB.out)) hb); clear BK127; clear BK138; clear HB; have BK127 := n0_; have BK138 := n1_; have HB := n2_; clear n0_ n1_ n2_; (try clear hb); (try clear hb2); (try clear hk); (try clear hi); have hcz26_0 : w25.cell? ⟨gb127, 0, none⟩ = some (.int .i64 0) := (blk_cell BK127.out 0).trans rfl; have hcz26_1 : w25.cell? ⟨gb127, 1, none⟩ = some (.int .i64 0) := (blk_cell BK127.out 1).trans rfl; have hcz26_2 : w25.cell? ⟨gb127, 2, none⟩ = some (.int .i64 0) := (blk_cell BK127.out 2).trans rfl; have hfz26_0 := blk_frozen BK127.out 0; have hfz26_1 := blk_frozen BK127.out 1; have hfz26_2 := blk_frozen BK127.out 2))
      refine bodyPost_ret (results_ct rfl _ _ gb127 23 #[.int .i64 0, .int .i64 0, .int .i64 0] (0, 0) _ rfl (by (with_reducible repeat (first | refine blk_drewN ?_ _ | refine blk_drew ?_ | refine blk_alloc ?_ _)); refine blk_put (cs := #[.int .i64 0, .int .i64 0, .int .i64 0]) ?_ 2 _ rfl; (with_reducible repeat (first | refine blk_drewN ?_ _ | refine blk_drew ?_ | refine blk_alloc ?_ _)); refine blk_put (cs := #[.int .i64 0, .int .i64 0, .int .i64 0]) ?_ 1 _ rfl; (with_reducible repeat (first | refine blk_drewN ?_ _ | refine blk_drew ?_ | refine blk_alloc ?_ _)); refine blk_put (cs := #[.int .i64 0, .int .i64 0, .int .i64 0]) ?_ 0 _ rfl; (with_reducible repeat (first | refine blk_drewN ?_ _ | refine blk_drew ?_ | refine blk_alloc ?_ _)); exact BK127.out) Try.underlying23 rfl (by kernel_rfl)) rfl ?_
      exact ⟨by first | rfl | (simp [errW_none, errW_some] <;> rfl) | (simp [*, errW_none, errW_some] <;> rfl), by repeat (first | (with_reducible first | exact HB.out | apply below_alloc | apply pw_below_drewN | apply below_drew1 | refine below_set ?_ GE127.out | refine below_set ?_ GE138.out) | exact HB.out)⟩
  · replace c3 := Bool.eq_false_iff.mpr c3
    subst c3
    have H1 : (some (0, 0, 0, 7)) = some (r1, r2, r3, r4) := by rw [if_neg (show ¬ (false = true) by decide)] at H; exact H
    clear H
    have H := H1
    clear H1
    simp only [Option.some.injEq, Prod.mk.injEq] at H
    obtain ⟨rfl, rfl, rfl, rfl⟩ := H
    go_enter Try.func18, Try.ntmps18
    go_wp2_with (first | ((with_reducible refine gate_dst (N := 2) rfl ?_); refine box_event ?hg (N := 2) ?hd (cs := #[.int .i64 0, .int .i64 0, .int .i64 0]) (t := 23) ?hr ?_; (case hd => rfl); (case hg => rfl); (case hr => first | (go_simp; done) | (go_simp; rfl)); intro gb127 hg w27 hbox hb; have n0_ := Aside0.mk (below_step (by repeat (first | (with_reducible first | exact HB.out | apply below_alloc | apply pw_below_drewN | apply below_drew1) | exact HB.out)) hb); have n1_ := Aside0.mk (hbox); have n2_ := Aside0.mk ((by rw [hg]; exact (below_size (by repeat (first | (with_reducible first | exact HB.out | apply below_alloc | apply pw_below_drewN | apply below_drew1) | exact HB.out))) : w.heap.size ≤ gb127)); have n3_ := Aside0.mk ((by rw [hg]; exact (below_size (by repeat (first | (with_reducible first | exact HB.out | apply below_alloc | apply pw_below_drewN | apply below_drew1) | exact HB.out))) : w.heap.size ≤ gb127)); clear HB; have HB := n0_; have BK127 := n1_; have GW127 := n2_; have GE127 := n3_; clear n0_ n1_ n2_ n3_; clear hb hbox hg) | ((with_reducible refine gate_callee (f := 30) rfl ?_); refine goesL_ (some 11) rfl rfl Try.func30 (by kernel_rfl) rfl #[.string a0, .string (⟨#[]⟩ : ByteArray)] rfl (by (try simp only [List.map_toArray, List.map_cons, List.map_nil]); first | done | rfl | (simp only [List.length_drop, List.length_take]; rfl)) ?_; (with_reducible refine (identity_read.calls k a0 (⟨#[]⟩ : ByteArray) t128 t129 t130 t131 t132 t133 t134 t135 t136 false _ A2.out).mono ?_); rintro e w28 ⟨rfl, hb⟩; refine ⟨_, rfl, ?_⟩; have n0_ := Aside0.mk (blk_below (g := gb127) (o := .cells #[.int .i64 0, .int .i64 0, .int .i64 0] 23 (0, 0)) (by (with_reducible repeat (first | refine blk_drewN ?_ _ | refine blk_drew ?_ | refine blk_alloc ?_ _)); exact BK127.out) hb); have n1_ := Aside0.mk (below_step (by repeat (first | (with_reducible first | exact HB.out | apply below_alloc | apply pw_below_drewN | apply below_drew1 | refine below_set ?_ GE127.out) | exact HB.out)) hb); clear BK127; clear HB; have BK127 := n0_; have HB := n1_; clear n0_ n1_; (try clear hb); (try clear hb2); (try clear hk); (try clear hi)) | ((with_reducible refine gate_dst (N := 4) rfl ?_); refine box_event ?hg (N := 4) ?hd (cs := #[.int .u8 0, .int .u8 0, .int .u8 0, .int .u8 0, .int .u8 0, .int .u8 0, .int .u8 0, .int .u8 0, .int .u8 0]) (t := 43) ?hr ?_; (case hd => rfl); (case hg => rfl); (case hr => first | (go_simp; done) | (go_simp; rfl)); intro gb138 hg w29 hbox hb; have n0_ := Aside0.mk (blk_below (g := gb127) (o := .cells #[.int .i64 0, .int .i64 0, .int .i64 0] 23 (0, 0)) (by (with_reducible repeat (first | refine blk_drewN ?_ _ | refine blk_drew ?_ | refine blk_alloc ?_ _)); exact BK127.out) hb); have n1_ := Aside0.mk (below_step (by repeat (first | (with_reducible first | exact HB.out | apply below_alloc | apply pw_below_drewN | apply below_drew1 | refine below_set ?_ GE127.out) | exact HB.out)) hb); have n2_ := Aside0.mk (hbox); have n3_ := Aside0.mk ((by rw [hg]; exact (below_size (by repeat (first | (with_reducible first | exact HB.out | apply below_alloc | apply pw_below_drewN | apply below_drew1 | refine below_set ?_ GE127.out) | exact HB.out))) : w.heap.size ≤ gb138)); have n4_ := Aside0.mk ((by rw [hg]; exact (below_size (by repeat (first | (with_reducible first | exact HB.out | apply below_alloc | apply pw_below_drewN | apply below_drew1 | refine below_set ?_ GE127.out) | exact HB.out))) : w.heap.size ≤ gb138)); have n5_ := Aside0.mk ((by rw [hg]; exact Nat.ne_of_lt (blk_lt (g := gb127) (o := .cells #[.int .i64 0, .int .i64 0, .int .i64 0] 23 (0, 0)) (by (with_reducible repeat (first | refine blk_drewN ?_ _ | refine blk_drew ?_ | refine blk_alloc ?_ _)); exact BK127.out)) : gb127 ≠ gb138)); have n6_ := Aside0.mk ((by rw [hg]; exact Nat.ne_of_gt (blk_lt (g := gb127) (o := .cells #[.int .i64 0, .int .i64 0, .int .i64 0] 23 (0, 0)) (by (with_reducible repeat (first | refine blk_drewN ?_ _ | refine blk_drew ?_ | refine blk_alloc ?_ _)); exact BK127.out)) : gb138 ≠ gb127)); clear BK127; clear HB; have BK127 := n0_; have HB := n1_; have BK138 := n2_; have GW138 := n3_; have GE138 := n4_; have NB127_138 := n5_; have NB138_127 := n6_; clear n0_ n1_ n2_ n3_ n4_ n5_ n6_; clear hb hbox hg; have hnb30 := NB138_127.out; have hnc30 := NB127_138.out; have hcz31_0 : w29.cell? ⟨gb138, 0, none⟩ = some (.int .u8 0) := (blk_cell BK138.out 0).trans rfl; have hcz31_1 : w29.cell? ⟨gb138, 1, none⟩ = some (.int .u8 0) := (blk_cell BK138.out 1).trans rfl; have hcz31_2 : w29.cell? ⟨gb138, 2, none⟩ = some (.int .u8 0) := (blk_cell BK138.out 2).trans rfl; have hcz31_3 : w29.cell? ⟨gb138, 3, none⟩ = some (.int .u8 0) := (blk_cell BK138.out 3).trans rfl; have hcz31_4 : w29.cell? ⟨gb138, 4, none⟩ = some (.int .u8 0) := (blk_cell BK138.out 4).trans rfl; have hcz31_5 : w29.cell? ⟨gb138, 5, none⟩ = some (.int .u8 0) := (blk_cell BK138.out 5).trans rfl; have hcz31_6 : w29.cell? ⟨gb138, 6, none⟩ = some (.int .u8 0) := (blk_cell BK138.out 6).trans rfl; have hcz31_7 : w29.cell? ⟨gb138, 7, none⟩ = some (.int .u8 0) := (blk_cell BK138.out 7).trans rfl; have hcz31_8 : w29.cell? ⟨gb138, 8, none⟩ = some (.int .u8 0) := (blk_cell BK138.out 8).trans rfl; have hfz31_0 := blk_frozen BK138.out 0; have hfz31_1 := blk_frozen BK138.out 1; have hfz31_2 := blk_frozen BK138.out 2; have hfz31_3 := blk_frozen BK138.out 3; have hfz31_4 := blk_frozen BK138.out 4; have hfz31_5 := blk_frozen BK138.out 5; have hfz31_6 := blk_frozen BK138.out 6; have hfz31_7 := blk_frozen BK138.out 7; have hfz31_8 := blk_frozen BK138.out 8; have hcz32_0 : w29.cell? ⟨gb127, 0, none⟩ = some (.int .i64 0) := (blk_cell BK127.out 0).trans rfl; have hcz32_1 : w29.cell? ⟨gb127, 1, none⟩ = some (.int .i64 0) := (blk_cell BK127.out 1).trans rfl; have hcz32_2 : w29.cell? ⟨gb127, 2, none⟩ = some (.int .i64 0) := (blk_cell BK127.out 2).trans rfl; have hfz32_0 := blk_frozen BK127.out 0; have hfz32_1 := blk_frozen BK127.out 1; have hfz32_2 := blk_frozen BK127.out 2))
    refine bodyPost_ret (results_ct rfl _ _ gb127 23 #[.int .i64 0, .int .i64 0, .int .i64 0] (0, 0) _ rfl (by (with_reducible repeat (first | refine blk_drewN ?_ _ | refine blk_drew ?_ | refine blk_alloc ?_ _)); refine blk_put (cs := #[.int .i64 0, .int .i64 0, .int .i64 0]) ?_ 2 _ rfl; (with_reducible repeat (first | refine blk_drewN ?_ _ | refine blk_drew ?_ | refine blk_alloc ?_ _)); refine blk_put (cs := #[.int .i64 0, .int .i64 0, .int .i64 0]) ?_ 1 _ rfl; (with_reducible repeat (first | refine blk_drewN ?_ _ | refine blk_drew ?_ | refine blk_alloc ?_ _)); refine blk_put (cs := #[.int .i64 0, .int .i64 0, .int .i64 0]) ?_ 0 _ rfl; (with_reducible repeat (first | refine blk_drewN ?_ _ | refine blk_drew ?_ | refine blk_alloc ?_ _)); refine blk_far ?_ NB127_138.out _; (with_reducible repeat (first | refine blk_drewN ?_ _ | refine blk_drew ?_ | refine blk_alloc ?_ _)); refine blk_far ?_ NB127_138.out _; (with_reducible repeat (first | refine blk_drewN ?_ _ | refine blk_drew ?_ | refine blk_alloc ?_ _)); refine blk_far ?_ NB127_138.out _; (with_reducible repeat (first | refine blk_drewN ?_ _ | refine blk_drew ?_ | refine blk_alloc ?_ _)); refine blk_far ?_ NB127_138.out _; (with_reducible repeat (first | refine blk_drewN ?_ _ | refine blk_drew ?_ | refine blk_alloc ?_ _)); refine blk_far ?_ NB127_138.out _; (with_reducible repeat (first | refine blk_drewN ?_ _ | refine blk_drew ?_ | refine blk_alloc ?_ _)); refine blk_far ?_ NB127_138.out _; (with_reducible repeat (first | refine blk_drewN ?_ _ | refine blk_drew ?_ | refine blk_alloc ?_ _)); refine blk_far ?_ NB127_138.out _; (with_reducible repeat (first | refine blk_drewN ?_ _ | refine blk_drew ?_ | refine blk_alloc ?_ _)); refine blk_far ?_ NB127_138.out _; (with_reducible repeat (first | refine blk_drewN ?_ _ | refine blk_drew ?_ | refine blk_alloc ?_ _)); refine blk_far ?_ NB127_138.out _; (with_reducible repeat (first | refine blk_drewN ?_ _ | refine blk_drew ?_ | refine blk_alloc ?_ _)); exact BK127.out) Try.underlying23 rfl (by kernel_rfl)) rfl ?_
    exact ⟨by first | rfl | (simp [errW_none, errW_some] <;> rfl) | (simp [*, errW_none, errW_some] <;> rfl), by repeat (first | (with_reducible first | exact HB.out | apply below_alloc | apply pw_below_drewN | apply below_drew1 | refine below_set ?_ GE127.out | refine below_set ?_ GE138.out) | exact HB.out)⟩

end Go.Proofs.Ytogkjlfinjlngaa.XA
