/- Go functions of the program as plain Lean functions with a number of rounds, and that the calls come to exactly their answers. Conditions: those in each theorem. Written by a program of this project (wip/tools/xprint.py). -/
import Derived.Test.YtijmmnlhbbmhlaaXEx0
import Derived.Test.YtijmmnlhbbmhlaaXEx2
import Derived.Test.YtijmmnlhbbmhlaaXEx3
namespace Go.Proofs.Ytijmmnlhbbmhlaa.XE
open Go.RowKit Go.Proofs.Ytijmmnlhbbmhlaa.Ix Go.Proofs.YtijmmnlhbbmhlaaW.PrintWords Go.Proofs.YtijmmnlhbbmhlaaW.PrintLast Go.Proofs.YtijmmnlhbbmhlaaW.PrintMore
attribute [local go_sem] max2_int min2_int max_two min_two max_three min_three max_four min_four   -- for this text's walks alone
set_option linter.unusedVariables false
set_option linter.unusedSimpArgs false

/-! ### awardingbodyref39_Words: function 30 -/
mutual
def awardingbodyref39_Words.l0 : Nat → List Int → Int → Int → Int → Int → Int → Option (Int × Int × Int × Int)
  | 0, _, _, _, _, _, _ => none
  | k + 1, x1, x6, x181000, x181001, x181002, x181003 => if x6 < (x1.length : Int) then (if 0 ≤ x6 then (if (wrap64 (x6 + 1)) < (x1.length : Int) then (if 0 ≤ (wrap64 (x6 + 1)) then (awardingbodyref39_Words.j1 k x1 x6 (rd x1 x6) (rd x1 (wrap64 (x6 + 1))) x181000 x181001 x181002 x181003) else (none)) else (awardingbodyref39_Words.j1 k x1 x6 (rd x1 x6) 0 x181000 x181001 x181002 x181003)) else (none)) else ((awardingbodyref39_Permute.f k x181000 x181001 (Go.bits .xor .u32 x181002 4294967295) x181003).bind fun bt188 => ((awardingbodyref39_Permute.f k bt188.1 bt188.2.1 bt188.2.2.1 bt188.2.2.2).bind fun bt192 => (some (bt192.1, bt192.2.1, bt192.2.2.1, bt192.2.2.2))))
def awardingbodyref39_Words.j1 : Nat → List Int → Int → Int → Int → Int → Int → Int → Int → Option (Int × Int × Int × Int)
  | 0, _, _, _, _, _, _, _, _ => none
  | k + 1, x1, x6, x7, x8, x181000, x181001, x181002, x181003 => (awardingbodyref39_Permute.f k (Go.bits .xor .u32 x181000 x7) (Go.bits .xor .u32 x181001 x8) x181002 x181003).bind fun bt184 => (awardingbodyref39_Words.l0 k x1 (wrap64 (x6 + 2)) bt184.1 bt184.2.1 (Go.bits .xor .u32 bt184.2.2.1 x7) (Go.bits .xor .u32 bt184.2.2.2 x8))
end
def awardingbodyref39_Words.f (k : Nat) (a0 : Int) (l1 : List Int) : Option (Int × Int × Int × Int) := awardingbodyref39_Words.l0 k l1 0 1702391089 1651466610 a0 (((l1.length : Int)) % 4294967296)
theorem awardingbodyref39_Words.mono_l : ∀ k, (∀ y0 y1 y2 y3 y4 y5, LeO (awardingbodyref39_Words.l0 k y0 y1 y2 y3 y4 y5) (awardingbodyref39_Words.l0 (k + 1) y0 y1 y2 y3 y4 y5)) ∧ (∀ y0 y1 y2 y3 y4 y5 y6 y7, LeO (awardingbodyref39_Words.j1 k y0 y1 y2 y3 y4 y5 y6 y7) (awardingbodyref39_Words.j1 (k + 1) y0 y1 y2 y3 y4 y5 y6 y7))
  | 0 => ⟨fun _ _ _ _ _ _ r h => by simp [awardingbodyref39_Words.l0] at h, fun _ _ _ _ _ _ _ _ r h => by simp [awardingbodyref39_Words.j1] at h⟩
  | k + 1 => by
    obtain ⟨ih0, ih1⟩ := awardingbodyref39_Words.mono_l k
    refine ⟨?_, ?_⟩
    · intro y0 y1 y2 y3 y4 y5
      unfold awardingbodyref39_Words.l0
      repeat' first
      | (with_reducible exact ih0 _ _ _ _ _ _)
      | (with_reducible exact ih1 _ _ _ _ _ _ _ _)
      | (with_reducible exact awardingbodyref39_Permute.mono _ _ _ _ _)
      | (with_reducible exact LeO.refl _)
      | (with_reducible exact LeO.none _)
      | (with_reducible refine LeO.ite ?_ ?_)
      | (with_reducible refine LeO.bind ?_ (fun _ => ?_))
      | exact ih0 _ _ _ _ _ _
      | exact ih1 _ _ _ _ _ _ _ _
      | exact awardingbodyref39_Permute.mono _ _ _ _ _
      | exact LeO.none _
      | refine LeO.ite ?_ ?_
      | refine LeO.bind ?_ (fun _ => ?_)
    · intro y0 y1 y2 y3 y4 y5 y6 y7
      unfold awardingbodyref39_Words.j1
      repeat' first
      | (with_reducible exact ih0 _ _ _ _ _ _)
      | (with_reducible exact ih1 _ _ _ _ _ _ _ _)
      | (with_reducible exact awardingbodyref39_Permute.mono _ _ _ _ _)
      | (with_reducible exact LeO.refl _)
      | (with_reducible exact LeO.none _)
      | (with_reducible refine LeO.ite ?_ ?_)
      | (with_reducible refine LeO.bind ?_ (fun _ => ?_))
      | exact ih0 _ _ _ _ _ _
      | exact ih1 _ _ _ _ _ _ _ _
      | exact awardingbodyref39_Permute.mono _ _ _ _ _
      | exact LeO.none _
      | refine LeO.ite ?_ ?_
      | refine LeO.bind ?_ (fun _ => ?_)
theorem awardingbodyref39_Words.mono : ∀ a0 a1 k, LeO (awardingbodyref39_Words.f k a0 a1) (awardingbodyref39_Words.f (k + 1) a0 a1) := by
  intro a0 a1 k
  obtain ⟨ih0, ih1⟩ := awardingbodyref39_Words.mono_l k
  unfold awardingbodyref39_Words.f
  repeat' first
      | (with_reducible exact ih0 _ _ _ _ _ _)
      | (with_reducible exact ih1 _ _ _ _ _ _ _ _)
      | (with_reducible exact awardingbodyref39_Permute.mono _ _ _ _ _)
      | (with_reducible exact LeO.refl _)
      | (with_reducible exact LeO.none _)
      | (with_reducible refine LeO.ite ?_ ?_)
      | (with_reducible refine LeO.bind ?_ (fun _ => ?_))
      | exact ih0 _ _ _ _ _ _
      | exact ih1 _ _ _ _ _ _ _ _
      | exact awardingbodyref39_Permute.mono _ _ _ _ _
      | exact LeO.none _
      | refine LeO.ite ?_ ?_
      | refine LeO.bind ?_ (fun _ => ?_)
set_option maxHeartbeats 8000000 in
set_option maxRecDepth 100000 in
theorem awardingbodyref39_Words.calls (k : Nat) (a0 : Int) (A1 : Option Addr) (c1 : Nat) (l1 : List Int) (r1 : Int) (r2 : Int) (r3 : Int) (r4 : Int) (w : World) (hr1 : Kd.C (Kd.int .u32) w A1 l1.length l1) (hc1 : l1.length ≤ c1) (h : awardingbodyref39_Words.f k a0 l1 = some (r1, r2, r3, r4)) :
    Calls Try.prog 30 #[.int .u32 a0, .slice A1 l1.length c1] w fun e w' => e = .returned (.agg #[.int .u32 r1, .int .u32 r2, .int .u32 r3, .int .u32 r4]) ∧ Below w.heap.size w w' := by
  have hu24 := Try.underlying24
  have hu23 := Try.underlying23
  have HR1 := Aside0.mk hr1
  have HC1 := Aside0.mk hc1
  clear hr1 hc1
  have HB := Aside0.mk (Below.refl w.heap.size w)
  have H : (awardingbodyref39_Words.l0 k l1 0 1702391089 1651466610 a0 (((l1.length : Int)) % 4294967296)) = some (r1, r2, r3, r4) := h
  clear h
  have H' := Aside0.mk H
  clear H
  go_enter Try.func30, Try.ntmps30
  go_wp2_with (first | ((with_reducible refine gate_dst (N := 4) rfl ?_); refine box_event ?hg (N := 4) ?hd (cs := #[.int .u32 0, .int .u32 0, .int .u32 0, .int .u32 0]) (t := 24) ?hr ?_; (case hd => rfl); (case hg => rfl); (case hr => first | (go_simp; done) | (go_simp; rfl)); intro gb179 hg w3 hbox hb; have n0_ := Aside0.mk (below_step (by repeat (first | (with_reducible first | exact HB.out | apply below_alloc | apply pw_below_drewN | apply below_drew1) | exact HB.out)) hb); have n1_ := Aside0.mk (hbox); have n2_ := Aside0.mk ((by rw [hg]; exact (below_size (by repeat (first | (with_reducible first | exact HB.out | apply below_alloc | apply pw_below_drewN | apply below_drew1) | exact HB.out))) : w.heap.size ≤ gb179)); have n3_ := Aside0.mk ((by rw [hg]; exact (below_size (by repeat (first | (with_reducible first | exact HB.out | apply below_alloc | apply pw_below_drewN | apply below_drew1) | exact HB.out))) : w.heap.size ≤ gb179)); clear HB; have HB := n0_; have BK179 := n1_; have GW179 := n2_; have GE179 := n3_; clear n0_ n1_ n2_ n3_; clear hb hbox hg) | ((with_reducible refine gate_dst (N := 5) rfl ?_); refine box_event ?hg (N := 5) ?hd (cs := #[.int .u32 0, .int .u32 0, .int .u32 0, .int .u32 0]) (t := 23) ?hr ?_; (case hd => rfl); (case hg => rfl); (case hr => first | (go_simp; done) | (go_simp; rfl)); intro gb180 hg w4 hbox hb; have n0_ := Aside0.mk (blk_below (g := gb179) (o := .cells #[.int .u32 0, .int .u32 0, .int .u32 0, .int .u32 0] 24 (0, 0)) (by (with_reducible repeat (first | refine blk_drewN ?_ _ | refine blk_drew ?_ | refine blk_alloc ?_ _)); exact BK179.out) hb); have n1_ := Aside0.mk (below_step (by repeat (first | (with_reducible first | exact HB.out | apply below_alloc | apply pw_below_drewN | apply below_drew1 | refine below_set ?_ GE179.out) | exact HB.out)) hb); have n2_ := Aside0.mk (hbox); have n3_ := Aside0.mk ((by rw [hg]; exact (below_size (by repeat (first | (with_reducible first | exact HB.out | apply below_alloc | apply pw_below_drewN | apply below_drew1 | refine below_set ?_ GE179.out) | exact HB.out))) : w.heap.size ≤ gb180)); have n4_ := Aside0.mk ((by rw [hg]; exact (below_size (by repeat (first | (with_reducible first | exact HB.out | apply below_alloc | apply pw_below_drewN | apply below_drew1 | refine below_set ?_ GE179.out) | exact HB.out))) : w.heap.size ≤ gb180)); have n5_ := Aside0.mk ((by rw [hg]; exact Nat.ne_of_lt (blk_lt (g := gb179) (o := .cells #[.int .u32 0, .int .u32 0, .int .u32 0, .int .u32 0] 24 (0, 0)) (by (with_reducible repeat (first | refine blk_drewN ?_ _ | refine blk_drew ?_ | refine blk_alloc ?_ _)); exact BK179.out)) : gb179 ≠ gb180)); have n6_ := Aside0.mk ((by rw [hg]; exact Nat.ne_of_gt (blk_lt (g := gb179) (o := .cells #[.int .u32 0, .int .u32 0, .int .u32 0, .int .u32 0] 24 (0, 0)) (by (with_reducible repeat (first | refine blk_drewN ?_ _ | refine blk_drew ?_ | refine blk_alloc ?_ _)); exact BK179.out)) : gb180 ≠ gb179)); clear BK179; clear HB; have BK179 := n0_; have HB := n1_; have BK180 := n2_; have GW180 := n3_; have GE180 := n4_; have NB179_180 := n5_; have NB180_179 := n6_; clear n0_ n1_ n2_ n3_ n4_ n5_ n6_; clear hb hbox hg; have hnb5 := NB180_179.out; have hnc5 := NB179_180.out; have hcz6_0 : w4.cell? ⟨gb180, 0, none⟩ = some (.int .u32 0) := (blk_cell BK180.out 0).trans rfl; have hcz6_1 : w4.cell? ⟨gb180, 1, none⟩ = some (.int .u32 0) := (blk_cell BK180.out 1).trans rfl; have hcz6_2 : w4.cell? ⟨gb180, 2, none⟩ = some (.int .u32 0) := (blk_cell BK180.out 2).trans rfl; have hcz6_3 : w4.cell? ⟨gb180, 3, none⟩ = some (.int .u32 0) := (blk_cell BK180.out 3).trans rfl; have hfz6_0 := blk_frozen BK180.out 0; have hfz6_1 := blk_frozen BK180.out 1; have hfz6_2 := blk_frozen BK180.out 2; have hfz6_3 := blk_frozen BK180.out 3))
  go_loopg [6] k (fun kq v6 w' => ∃ (x6_1 : Int) (x181000_1 : Int) (x181001_1 : Int) (x181002_1 : Int) (x181003_1 : Int), v6 = .int .i64 x6_1 ∧ Aside0 (awardingbodyref39_Words.l0 kq l1 x6_1 x181000_1 x181001_1 x181002_1 x181003_1 = some (r1, r2, r3, r4)) ∧ Aside0 (kq ≤ k) ∧ Aside0 (w'.heap[gb179]? = some (.cells #[.int .u32 0, .int .u32 0, .int .u32 0, .int .u32 0] 24 (0, 0))) ∧ Aside0 (w'.heap[gb180]? = some (.cells #[.int .u32 x181000_1, .int .u32 x181001_1, .int .u32 x181002_1, .int .u32 x181003_1] 23 (0, 0))) ∧ Aside0 (Below w.heap.size w w'))
  case atStart => exact ⟨(0), (1702391089), (1651466610), (a0), (((l1.length : Int)) % 4294967296), (by first | rfl | (simp; done) | (simp [*]; done)), H', ⟨Nat.le_refl _⟩, ⟨by (with_reducible repeat (first | refine blk_drewN ?_ _ | refine blk_drew ?_ | refine blk_alloc ?_ _)); refine blk_far ?_ NB179_180.out _; (with_reducible repeat (first | refine blk_drewN ?_ _ | refine blk_drew ?_ | refine blk_alloc ?_ _)); refine blk_far ?_ NB179_180.out _; (with_reducible repeat (first | refine blk_drewN ?_ _ | refine blk_drew ?_ | refine blk_alloc ?_ _)); refine blk_far ?_ NB179_180.out _; (with_reducible repeat (first | refine blk_drewN ?_ _ | refine blk_drew ?_ | refine blk_alloc ?_ _)); refine blk_far ?_ NB179_180.out _; (with_reducible repeat (first | refine blk_drewN ?_ _ | refine blk_drew ?_ | refine blk_alloc ?_ _)); exact BK179.out⟩, ⟨by (with_reducible repeat (first | refine blk_drewN ?_ _ | refine blk_drew ?_ | refine blk_alloc ?_ _)); refine blk_put (cs := #[.int .u32 1702391089, .int .u32 1651466610, .int .u32 a0, .int .u32 0]) ?_ 3 _ rfl; (with_reducible repeat (first | refine blk_drewN ?_ _ | refine blk_drew ?_ | refine blk_alloc ?_ _)); refine blk_put (cs := #[.int .u32 1702391089, .int .u32 1651466610, .int .u32 0, .int .u32 0]) ?_ 2 _ rfl; (with_reducible repeat (first | refine blk_drewN ?_ _ | refine blk_drew ?_ | refine blk_alloc ?_ _)); refine blk_put (cs := #[.int .u32 1702391089, .int .u32 0, .int .u32 0, .int .u32 0]) ?_ 1 _ rfl; (with_reducible repeat (first | refine blk_drewN ?_ _ | refine blk_drew ?_ | refine blk_alloc ?_ _)); refine blk_put (cs := #[.int .u32 0, .int .u32 0, .int .u32 0, .int .u32 0]) ?_ 0 _ rfl; (with_reducible repeat (first | refine blk_drewN ?_ _ | refine blk_drew ?_ | refine blk_alloc ?_ _)); exact BK180.out⟩, ⟨by repeat (first | (with_reducible first | exact HB.out | apply below_alloc | apply pw_below_drewN | apply below_drew1 | refine below_set ?_ GE179.out | refine below_set ?_ GE180.out) | exact HB.out)⟩⟩
  case round =>
    clear H'
    try clear c1
    try clear p2
    try clear c3
    try clear c5
    try clear hcz6_0
    try clear hcz6_1
    try clear hcz6_2
    try clear hcz6_3
    try clear hfz6_0
    try clear hfz6_1
    try clear hfz6_2
    try clear hfz6_3
    obtain ⟨x6_1, x181000_1, x181001_1, x181002_1, x181003_1, rfl, HA, HK1, BK179, BK180, HB⟩ := hrel
    cases gk with
    | zero => exact absurd HA.out (by simp [awardingbodyref39_Words.l0])
    | succ k1 =>
      have H := HA.out
      clear HA
      simp only [awardingbodyref39_Words.l0] at H
      by_cases c7 : x6_1 < (l1.length : Int)
      · rw [if_pos c7] at H
        have c7b0 : decide (x6_1 < (l1.length : Int)) = true := decide_eq_true c7
        clear c7
        by_cases c8 : 0 ≤ x6_1
        · rw [if_pos c8] at H
          have c8b0 : decide (0 ≤ x6_1) = true := decide_eq_true c8
          clear c8
          have HC9 := Aside0.mk H
          clear H
          have p182 : 0 ≤ (x6_1 : Int) := of_decide_eq_true (by first | (with_reducible assumption) | assumption)
          have q182 : x6_1 < (l1.length : Int) := of_decide_eq_true (by first | (with_reducible assumption) | assumption)
          obtain ⟨ad182, e182, hx182_0⟩ := Kd.at_int HR1.out x6_1 p182 q182
          cases e182
          replace hx182_0 := (HB.out.cell (World.block_lt_of_cell? w _ hx182_0)).trans hx182_0
          replace p182 := eq_true p182
          replace q182 := eq_true q182
          go_upto_if 28 with (fail)
          go_cut [8] (fun v8 wc => ∃ (kq : Nat) (x8_8 : Int), v8 = .int .u32 x8_8 ∧ Aside0 (awardingbodyref39_Words.j1 kq l1 x6_1 (rd l1 x6_1) x8_8 x181000_1 x181001_1 x181002_1 x181003_1 = some (r1, r2, r3, r4)) ∧ Aside0 (kq ≤ k1) ∧ Aside0 (wc.heap[gb179]? = some (.cells #[.int .u32 0, .int .u32 0, .int .u32 0, .int .u32 0] 24 (0, 0))) ∧ Aside0 (wc.heap[gb180]? = some (.cells #[.int .u32 x181000_1, .int .u32 x181001_1, .int .u32 x181002_1, .int .u32 x181003_1] 23 (0, 0))) ∧ Aside0 (Below w.heap.size w wc))
          case first =>
            have H := HC9.out
            clear HC9
            by_cases c10 : (wrap64 (x6_1 + 1)) < (l1.length : Int)
            · rw [if_pos c10] at H
              have c10b0 : decide ((wrap64 (x6_1 + 1)) < (l1.length : Int)) = true := decide_eq_true c10
              clear c10
              (first | rw [c10b0] | (simp only [i64_w, i32_w]; rw [c10b0]) | skip)
              obtain ⟨ji11, hji11⟩ : ∃ j_ : Int, (wrap64 (x6_1 + 1)) = j_ := ⟨_, rfl⟩
              replace H : (if 0 ≤ (ji11) then (awardingbodyref39_Words.j1 k1 l1 x6_1 (rd l1 x6_1) (rd l1 (ji11)) x181000_1 x181001_1 x181002_1 x181003_1) else (none)) = some (r1, r2, r3, r4) := by first | (rw [hji11] at H; exact H) | (simp only [hji11] at H ⊢; exact H)
              (try rw [hji11] at c10b0)
              have hji11w : (IntKind.i64.wrap (x6_1 + 1)) = ji11 := (i64_w _).trans hji11
              by_cases c12 : 0 ≤ (ji11)
              · rw [if_pos c12] at H
                have c12b0 : decide (0 ≤ (ji11)) = true := decide_eq_true c12
                clear c12
                have H' := Aside0.mk H
                clear H
                have p183 : 0 ≤ ((ji11) : Int) := of_decide_eq_true (by first | (with_reducible assumption) | assumption)
                have q183 : (ji11) < (l1.length : Int) := of_decide_eq_true (by first | (with_reducible assumption) | assumption)
                obtain ⟨ad183, e183, hx183_0⟩ := Kd.at_int HR1.out (ji11) p183 q183
                obtain rfl : ad182 = ad183 := (by injection e183)
                replace hx183_0 := (HB.out.cell (World.block_lt_of_cell? w _ hx183_0)).trans hx183_0
                replace p183 := eq_true p183
                replace q183 := eq_true q183
                go_wp2
                go_meet
                case rel => exact ⟨_, (rd l1 (ji11)), (by first | rfl | (simp; done) | (simp only [← hji11] <;> (first | rfl | simp)) | (simp [*]; done)), H', ⟨by have := HK1.out; first | omega | exact Nat.le_refl _⟩, ⟨by (with_reducible repeat (first | refine blk_drewN ?_ _ | refine blk_drew ?_ | refine blk_alloc ?_ _)); exact BK179.out⟩, ⟨by (with_reducible repeat (first | refine blk_drewN ?_ _ | refine blk_drew ?_ | refine blk_alloc ?_ _)); exact BK180.out⟩, ⟨by repeat (first | (with_reducible first | exact HB.out | apply below_alloc | apply pw_below_drewN | apply below_drew1 | refine below_set ?_ GE179.out | refine below_set ?_ GE180.out) | exact HB.out)⟩⟩
              · rw [if_neg c12] at H
                exact absurd H (by simp)
            · rw [if_neg c10] at H
              have c10b0 : decide ((wrap64 (x6_1 + 1)) < (l1.length : Int)) = false := decide_eq_false c10
              clear c10
              (first | rw [c10b0] | (simp only [i64_w, i32_w]; rw [c10b0]) | skip)
              have H' := Aside0.mk H
              clear H
              go_wp2
              go_meet
              case rel => exact ⟨_, (0), (by first | rfl | (simp; done) | (simp [*]; done)), H', ⟨by have := HK1.out; first | omega | exact Nat.le_refl _⟩, ⟨by (with_reducible repeat (first | refine blk_drewN ?_ _ | refine blk_drew ?_ | refine blk_alloc ?_ _)); exact BK179.out⟩, ⟨by (with_reducible repeat (first | refine blk_drewN ?_ _ | refine blk_drew ?_ | refine blk_alloc ?_ _)); exact BK180.out⟩, ⟨by repeat (first | (with_reducible first | exact HB.out | apply below_alloc | apply pw_below_drewN | apply below_drew1 | refine below_set ?_ GE179.out | refine below_set ?_ GE180.out) | exact HB.out)⟩⟩
          case rest =>
            clear HC9
            try clear c1
            try clear p1
            try clear q1
            try clear hx1
            try clear p2
            try clear c3
            try clear c5
            try clear p6
            try clear c7
            try clear c7b0
            try clear c8
            try clear c8b0
            try clear c10
            try clear c10b0
            try clear c12
            try clear c12b0
            try clear hcz6_0
            try clear hcz6_1
            try clear hcz6_2
            try clear hcz6_3
            try clear hfz6_0
            try clear hfz6_1
            try clear hfz6_2
            try clear hfz6_3
            try clear hx182_0
            try clear hx183_0
            try clear p182
            try clear p183
            try clear p2
            try clear q182
            try clear q183
            obtain ⟨kq, x8_8, rfl, HA, HJ8, BK179, BK180, HB⟩ := hcut
            cases kq with
            | zero => exact absurd HA.out (by simp [awardingbodyref39_Words.j1])
            | succ kj8 =>
              have H := HA.out
              clear HA
              simp only [awardingbodyref39_Words.j1] at H
              replace H := Option.bind_eq_some_iff.mp H
              obtain ⟨⟨t184, t185, t186, t187⟩, A130, H⟩ := H
              replace H : (awardingbodyref39_Words.l0 kj8 l1 (wrap64 (x6_1 + 2)) t184 t185 (Go.bits .xor .u32 t186 (rd l1 x6_1)) (Go.bits .xor .u32 t187 x8_8)) = some (r1, r2, r3, r4) := H
              have A13 := Aside0.mk A130
              clear A130
              have H' := Aside0.mk H
              clear H
              have hnb14 := NB180_179.out
              have hnc14 := NB179_180.out
              have hcz15_0 : wc.cell? ⟨gb180, 0, none⟩ = some (.int .u32 x181000_1) := (blk_cell BK180.out 0).trans rfl
              have hcz15_1 : wc.cell? ⟨gb180, 1, none⟩ = some (.int .u32 x181001_1) := (blk_cell BK180.out 1).trans rfl
              have hcz15_2 : wc.cell? ⟨gb180, 2, none⟩ = some (.int .u32 x181002_1) := (blk_cell BK180.out 2).trans rfl
              have hcz15_3 : wc.cell? ⟨gb180, 3, none⟩ = some (.int .u32 x181003_1) := (blk_cell BK180.out 3).trans rfl
              have hfz15_0 := blk_frozen BK180.out 0
              have hfz15_1 := blk_frozen BK180.out 1
              have hfz15_2 := blk_frozen BK180.out 2
              have hfz15_3 := blk_frozen BK180.out 3
              go_wp2_with (first | ((with_reducible refine gate_callee (f := 32) rfl ?_); refine goesL_ (some 45) rfl rfl Try.func32 (by kernel_rfl) rfl #[.agg #[.int .u32 (Go.bits .xor .u32 x181000_1 (rd l1 x6_1)), .int .u32 (Go.bits .xor .u32 x181001_1 x8_8), .int .u32 x181002_1, .int .u32 x181003_1]] rfl (by (try simp only [List.map_toArray, List.map_cons, List.map_nil]); first | done | rfl | (simp only [List.length_drop, List.length_take]; rfl)) ?_; (with_reducible refine (awardingbodyref39_Permute.calls kj8 (Go.bits .xor .u32 x181000_1 (rd l1 x6_1)) (Go.bits .xor .u32 x181001_1 x8_8) x181002_1 x181003_1 t184 t185 t186 t187 _ A13.out).mono ?_); rintro e w16 ⟨rfl, hb⟩; refine ⟨_, rfl, ?_⟩; have n0_ := Aside0.mk (blk_below (g := gb179) (o := .cells #[.int .u32 0, .int .u32 0, .int .u32 0, .int .u32 0] 24 (0, 0)) (by (with_reducible repeat (first | refine blk_drewN ?_ _ | refine blk_drew ?_ | refine blk_alloc ?_ _)); refine blk_far ?_ NB179_180.out _; (with_reducible repeat (first | refine blk_drewN ?_ _ | refine blk_drew ?_ | refine blk_alloc ?_ _)); refine blk_far ?_ NB179_180.out _; (with_reducible repeat (first | refine blk_drewN ?_ _ | refine blk_drew ?_ | refine blk_alloc ?_ _)); exact BK179.out) hb); have n1_ := Aside0.mk (blk_below (g := gb180) (o := .cells #[.int .u32 (Go.bits .xor .u32 x181000_1 (rd l1 x6_1)), .int .u32 (Go.bits .xor .u32 x181001_1 x8_8), .int .u32 x181002_1, .int .u32 x181003_1] 23 (0, 0)) (by (with_reducible repeat (first | refine blk_drewN ?_ _ | refine blk_drew ?_ | refine blk_alloc ?_ _)); refine blk_put (cs := #[.int .u32 (Go.bits .xor .u32 x181000_1 (rd l1 x6_1)), .int .u32 x181001_1, .int .u32 x181002_1, .int .u32 x181003_1]) ?_ 1 _ rfl; (with_reducible repeat (first | refine blk_drewN ?_ _ | refine blk_drew ?_ | refine blk_alloc ?_ _)); refine blk_put (cs := #[.int .u32 x181000_1, .int .u32 x181001_1, .int .u32 x181002_1, .int .u32 x181003_1]) ?_ 0 _ rfl; (with_reducible repeat (first | refine blk_drewN ?_ _ | refine blk_drew ?_ | refine blk_alloc ?_ _)); exact BK180.out) hb); have n2_ := Aside0.mk (below_step (by repeat (first | (with_reducible first | exact HB.out | apply below_alloc | apply pw_below_drewN | apply below_drew1 | refine below_set ?_ GE179.out | refine below_set ?_ GE180.out) | exact HB.out)) hb); clear BK179; clear BK180; clear HB; have BK179 := n0_; have BK180 := n1_; have HB := n2_; clear n0_ n1_ n2_; (try clear hb); (try clear hb2); (try clear hk); (try clear hi); have hcz17_0 : w16.cell? ⟨gb180, 0, none⟩ = some (.int .u32 (Go.bits .xor .u32 x181000_1 (rd l1 x6_1))) := (blk_cell BK180.out 0).trans rfl; have hcz17_1 : w16.cell? ⟨gb180, 1, none⟩ = some (.int .u32 (Go.bits .xor .u32 x181001_1 x8_8)) := (blk_cell BK180.out 1).trans rfl; have hcz17_2 : w16.cell? ⟨gb180, 2, none⟩ = some (.int .u32 x181002_1) := (blk_cell BK180.out 2).trans rfl; have hcz17_3 : w16.cell? ⟨gb180, 3, none⟩ = some (.int .u32 x181003_1) := (blk_cell BK180.out 3).trans rfl; have hfz17_0 := blk_frozen BK180.out 0; have hfz17_1 := blk_frozen BK180.out 1; have hfz17_2 := blk_frozen BK180.out 2; have hfz17_3 := blk_frozen BK180.out 3))
              go_roundg kj8
              case measure => have := HK1.out; have := HJ8.out; omega
              case rel => exact ⟨(wrap64 (x6_1 + 2)), (t184), (t185), (Go.bits .xor .u32 t186 (rd l1 x6_1)), (Go.bits .xor .u32 t187 x8_8), (by first | rfl | (simp; done) | (simp [*]; done)), H', ⟨by have := HK1.out; have := HJ8.out; omega⟩, ⟨by (with_reducible repeat (first | refine blk_drewN ?_ _ | refine blk_drew ?_ | refine blk_alloc ?_ _)); refine blk_far ?_ NB179_180.out _; (with_reducible repeat (first | refine blk_drewN ?_ _ | refine blk_drew ?_ | refine blk_alloc ?_ _)); refine blk_far ?_ NB179_180.out _; (with_reducible repeat (first | refine blk_drewN ?_ _ | refine blk_drew ?_ | refine blk_alloc ?_ _)); refine blk_far ?_ NB179_180.out _; (with_reducible repeat (first | refine blk_drewN ?_ _ | refine blk_drew ?_ | refine blk_alloc ?_ _)); refine blk_far ?_ NB179_180.out _; (with_reducible repeat (first | refine blk_drewN ?_ _ | refine blk_drew ?_ | refine blk_alloc ?_ _)); refine blk_far ?_ NB179_180.out _; (with_reducible repeat (first | refine blk_drewN ?_ _ | refine blk_drew ?_ | refine blk_alloc ?_ _)); refine blk_far ?_ NB179_180.out _; (with_reducible repeat (first | refine blk_drewN ?_ _ | refine blk_drew ?_ | refine blk_alloc ?_ _)); exact BK179.out⟩, ⟨by (with_reducible repeat (first | refine blk_drewN ?_ _ | refine blk_drew ?_ | refine blk_alloc ?_ _)); refine blk_put (cs := #[.int .u32 t184, .int .u32 t185, .int .u32 (Go.bits .xor .u32 t186 (rd l1 x6_1)), .int .u32 t187]) ?_ 3 _ rfl; (with_reducible repeat (first | refine blk_drewN ?_ _ | refine blk_drew ?_ | refine blk_alloc ?_ _)); refine blk_put (cs := #[.int .u32 t184, .int .u32 t185, .int .u32 t186, .int .u32 t187]) ?_ 2 _ rfl; (with_reducible repeat (first | refine blk_drewN ?_ _ | refine blk_drew ?_ | refine blk_alloc ?_ _)); refine blk_put (cs := #[.int .u32 t184, .int .u32 t185, .int .u32 t186, .int .u32 x181003_1]) ?_ 3 _ rfl; (with_reducible repeat (first | refine blk_drewN ?_ _ | refine blk_drew ?_ | refine blk_alloc ?_ _)); refine blk_put (cs := #[.int .u32 t184, .int .u32 t185, .int .u32 x181002_1, .int .u32 x181003_1]) ?_ 2 _ rfl; (with_reducible repeat (first | refine blk_drewN ?_ _ | refine blk_drew ?_ | refine blk_alloc ?_ _)); refine blk_put (cs := #[.int .u32 t184, .int .u32 (Go.bits .xor .u32 x181001_1 x8_8), .int .u32 x181002_1, .int .u32 x181003_1]) ?_ 1 _ rfl; (with_reducible repeat (first | refine blk_drewN ?_ _ | refine blk_drew ?_ | refine blk_alloc ?_ _)); refine blk_put (cs := #[.int .u32 (Go.bits .xor .u32 x181000_1 (rd l1 x6_1)), .int .u32 (Go.bits .xor .u32 x181001_1 x8_8), .int .u32 x181002_1, .int .u32 x181003_1]) ?_ 0 _ rfl; (with_reducible repeat (first | refine blk_drewN ?_ _ | refine blk_drew ?_ | refine blk_alloc ?_ _)); exact BK180.out⟩, ⟨by repeat (first | (with_reducible first | exact HB.out | apply below_alloc | apply pw_below_drewN | apply below_drew1 | refine below_set ?_ GE179.out | refine below_set ?_ GE180.out) | exact HB.out)⟩⟩
        · rw [if_neg c8] at H
          exact absurd H (by simp)
      · rw [if_neg c7] at H
        have c7b0 : decide (x6_1 < (l1.length : Int)) = false := decide_eq_false c7
        clear c7
        replace H := Option.bind_eq_some_iff.mp H
        obtain ⟨⟨t188, t189, t190, t191⟩, A180, H⟩ := H
        replace H : ((awardingbodyref39_Permute.f k1 t188 t189 t190 t191).bind fun bt192 => (some (bt192.1, bt192.2.1, bt192.2.2.1, bt192.2.2.2))) = some (r1, r2, r3, r4) := H
        have A18 := Aside0.mk A180
        clear A180
        replace H := Option.bind_eq_some_iff.mp H
        obtain ⟨⟨t192, t193, t194, t195⟩, A190, H⟩ := H
        replace H : (some (t192, t193, t194, t195)) = some (r1, r2, r3, r4) := H
        have A19 := Aside0.mk A190
        clear A190
        simp only [Option.some.injEq, Prod.mk.injEq] at H
        obtain ⟨rfl, rfl, rfl, rfl⟩ := H
        have hnb20 := NB180_179.out
        have hnc20 := NB179_180.out
        have hcz21_0 : wr.cell? ⟨gb180, 0, none⟩ = some (.int .u32 x181000_1) := (blk_cell BK180.out 0).trans rfl
        have hcz21_1 : wr.cell? ⟨gb180, 1, none⟩ = some (.int .u32 x181001_1) := (blk_cell BK180.out 1).trans rfl
        have hcz21_2 : wr.cell? ⟨gb180, 2, none⟩ = some (.int .u32 x181002_1) := (blk_cell BK180.out 2).trans rfl
        have hcz21_3 : wr.cell? ⟨gb180, 3, none⟩ = some (.int .u32 x181003_1) := (blk_cell BK180.out 3).trans rfl
        have hfz21_0 := blk_frozen BK180.out 0
        have hfz21_1 := blk_frozen BK180.out 1
        have hfz21_2 := blk_frozen BK180.out 2
        have hfz21_3 := blk_frozen BK180.out 3
        go_wp2_with (first | ((with_reducible refine gate_callee (f := 32) rfl ?_); refine goesL_ (some 61) rfl rfl Try.func32 (by kernel_rfl) rfl #[.agg #[.int .u32 x181000_1, .int .u32 x181001_1, .int .u32 (Go.bits .xor .u32 x181002_1 4294967295), .int .u32 x181003_1]] rfl (by (try simp only [List.map_toArray, List.map_cons, List.map_nil]); first | done | rfl | (simp only [List.length_drop, List.length_take]; rfl)) ?_; (with_reducible refine (awardingbodyref39_Permute.calls k1 x181000_1 x181001_1 (Go.bits .xor .u32 x181002_1 4294967295) x181003_1 t188 t189 t190 t191 _ A18.out).mono ?_); rintro e w22 ⟨rfl, hb⟩; refine ⟨_, rfl, ?_⟩; have n0_ := Aside0.mk (blk_below (g := gb179) (o := .cells #[.int .u32 0, .int .u32 0, .int .u32 0, .int .u32 0] 24 (0, 0)) (by (with_reducible repeat (first | refine blk_drewN ?_ _ | refine blk_drew ?_ | refine blk_alloc ?_ _)); refine blk_far ?_ NB179_180.out _; (with_reducible repeat (first | refine blk_drewN ?_ _ | refine blk_drew ?_ | refine blk_alloc ?_ _)); exact BK179.out) hb); have n1_ := Aside0.mk (blk_below (g := gb180) (o := .cells #[.int .u32 x181000_1, .int .u32 x181001_1, .int .u32 (Go.bits .xor .u32 x181002_1 4294967295), .int .u32 x181003_1] 23 (0, 0)) (by (with_reducible repeat (first | refine blk_drewN ?_ _ | refine blk_drew ?_ | refine blk_alloc ?_ _)); refine blk_put (cs := #[.int .u32 x181000_1, .int .u32 x181001_1, .int .u32 x181002_1, .int .u32 x181003_1]) ?_ 2 _ rfl; (with_reducible repeat (first | refine blk_drewN ?_ _ | refine blk_drew ?_ | refine blk_alloc ?_ _)); exact BK180.out) hb); have n2_ := Aside0.mk (below_step (by repeat (first | (with_reducible first | exact HB.out | apply below_alloc | apply pw_below_drewN | apply below_drew1 | refine below_set ?_ GE179.out | refine below_set ?_ GE180.out) | exact HB.out)) hb); clear BK179; clear BK180; clear HB; have BK179 := n0_; have BK180 := n1_; have HB := n2_; clear n0_ n1_ n2_; (try clear hb); (try clear hb2); (try clear hk); (try clear hi)) | ((with_reducible refine gate_callee (f := 32) rfl ?_); refine goesL_ (some 62) rfl rfl Try.func32 (by kernel_rfl) rfl #[.agg #[.int .u32 t188, .int .u32 t189, .int .u32 t190, .int .u32 t191]] rfl (by (try simp only [List.map_toArray, List.map_cons, List.map_nil]); first | done | rfl | (simp only [List.length_drop, List.length_take]; rfl)) ?_; (with_reducible refine (awardingbodyref39_Permute.calls k1 t188 t189 t190 t191 t192 t193 t194 t195 _ A19.out).mono ?_); rintro e w23 ⟨rfl, hb⟩; refine ⟨_, rfl, ?_⟩; have n0_ := Aside0.mk (blk_below (g := gb179) (o := .cells #[.int .u32 0, .int .u32 0, .int .u32 0, .int .u32 0] 24 (0, 0)) (by (with_reducible repeat (first | refine blk_drewN ?_ _ | refine blk_drew ?_ | refine blk_alloc ?_ _)); exact BK179.out) hb); have n1_ := Aside0.mk (blk_below (g := gb180) (o := .cells #[.int .u32 x181000_1, .int .u32 x181001_1, .int .u32 (Go.bits .xor .u32 x181002_1 4294967295), .int .u32 x181003_1] 23 (0, 0)) (by (with_reducible repeat (first | refine blk_drewN ?_ _ | refine blk_drew ?_ | refine blk_alloc ?_ _)); exact BK180.out) hb); have n2_ := Aside0.mk (below_step (by repeat (first | (with_reducible first | exact HB.out | apply below_alloc | apply pw_below_drewN | apply below_drew1 | refine below_set ?_ GE179.out | refine below_set ?_ GE180.out) | exact HB.out)) hb); clear BK179; clear BK180; clear HB; have BK179 := n0_; have BK180 := n1_; have HB := n2_; clear n0_ n1_ n2_; (try clear hb); (try clear hb2); (try clear hk); (try clear hi); have hcz24_0 : w23.cell? ⟨gb179, 0, none⟩ = some (.int .u32 0) := (blk_cell BK179.out 0).trans rfl; have hcz24_1 : w23.cell? ⟨gb179, 1, none⟩ = some (.int .u32 0) := (blk_cell BK179.out 1).trans rfl; have hcz24_2 : w23.cell? ⟨gb179, 2, none⟩ = some (.int .u32 0) := (blk_cell BK179.out 2).trans rfl; have hcz24_3 : w23.cell? ⟨gb179, 3, none⟩ = some (.int .u32 0) := (blk_cell BK179.out 3).trans rfl; have hfz24_0 := blk_frozen BK179.out 0; have hfz24_1 := blk_frozen BK179.out 1; have hfz24_2 := blk_frozen BK179.out 2; have hfz24_3 := blk_frozen BK179.out 3))
        refine bodyPost_ret (results_cell_row rfl _ _ gb179 24 #[.int .u32 t192, .int .u32 t193, .int .u32 t194, .int .u32 t195] (0, 0) _ rfl (by (with_reducible repeat (first | refine blk_drewN ?_ _ | refine blk_drew ?_ | refine blk_alloc ?_ _)); refine blk_put (cs := #[.int .u32 t192, .int .u32 t193, .int .u32 t194, .int .u32 0]) ?_ 3 _ rfl; (with_reducible repeat (first | refine blk_drewN ?_ _ | refine blk_drew ?_ | refine blk_alloc ?_ _)); refine blk_put (cs := #[.int .u32 t192, .int .u32 t193, .int .u32 0, .int .u32 0]) ?_ 2 _ rfl; (with_reducible repeat (first | refine blk_drewN ?_ _ | refine blk_drew ?_ | refine blk_alloc ?_ _)); refine blk_put (cs := #[.int .u32 t192, .int .u32 0, .int .u32 0, .int .u32 0]) ?_ 1 _ rfl; (with_reducible repeat (first | refine blk_drewN ?_ _ | refine blk_drew ?_ | refine blk_alloc ?_ _)); refine blk_put (cs := #[.int .u32 0, .int .u32 0, .int .u32 0, .int .u32 0]) ?_ 0 _ rfl; (with_reducible repeat (first | refine blk_drewN ?_ _ | refine blk_drew ?_ | refine blk_alloc ?_ _)); exact BK179.out) Try.underlying24 rfl (by kernel_rfl)) rfl ?_
        exact ⟨by first | rfl | (simp [errW_none, errW_some] <;> rfl) | (simp [*, errW_none, errW_some] <;> rfl), by repeat (first | (with_reducible first | exact HB.out | apply below_alloc | apply pw_below_drewN | apply below_drew1 | refine below_set ?_ GE179.out | refine below_set ?_ GE180.out) | exact HB.out)⟩

/-! ### awardingbodyref39_Numbers: function 24 -/
def awardingbodyref39_Numbers.l0 : Nat → Int → List Int → List Int → Int → Option (Int × Int × Int × Int)
  | 0, _, _, _, _ => none
  | k + 1, x0, x1, x5, x6 => if x6 < (x1.length : Int) then (if 0 ≤ x6 then ((some (([(IntKind.u64.wrap (rd x1 x6)) % 4294967296, ((IntKind.u64.wrap (rd x1 x6)) / 4294967296) % 4294967296] : List Int) : List Int)).bind fun y198 => (if x5.length + y198.length < 35184372088832 then (awardingbodyref39_Numbers.l0 k x0 x1 (x5 ++ y198) (wrap64 (x6 + 1))) else (none))) else (none)) else ((awardingbodyref39_Words.f k x0 x5).bind fun bt204 => (some (bt204.1, bt204.2.1, bt204.2.2.1, bt204.2.2.2)))
def awardingbodyref39_Numbers.f (k : Nat) (a0 : Int) (l1 : List Int) : Option (Int × Int × Int × Int) := awardingbodyref39_Numbers.l0 k a0 l1 ([] : List Int) 0
theorem awardingbodyref39_Numbers.mono_l : ∀ k, (∀ y0 y1 y2 y3, LeO (awardingbodyref39_Numbers.l0 k y0 y1 y2 y3) (awardingbodyref39_Numbers.l0 (k + 1) y0 y1 y2 y3))
  | 0 => fun _ _ _ _ r h => by simp [awardingbodyref39_Numbers.l0] at h
  | k + 1 => by
    have ih0 := awardingbodyref39_Numbers.mono_l k
    · intro y0 y1 y2 y3
      unfold awardingbodyref39_Numbers.l0
      repeat' first
      | (with_reducible exact ih0 _ _ _ _)
      | (with_reducible exact awardingbodyref39_Words.mono _ _ _)
      | (with_reducible exact LeO.refl _)
      | (with_reducible exact LeO.none _)
      | (with_reducible refine LeO.ite ?_ ?_)
      | (with_reducible refine LeO.bind ?_ (fun _ => ?_))
      | exact ih0 _ _ _ _
      | exact awardingbodyref39_Words.mono _ _ _
      | exact LeO.none _
      | refine LeO.ite ?_ ?_
      | refine LeO.bind ?_ (fun _ => ?_)
theorem awardingbodyref39_Numbers.mono : ∀ a0 a1 k, LeO (awardingbodyref39_Numbers.f k a0 a1) (awardingbodyref39_Numbers.f (k + 1) a0 a1) := by
  intro a0 a1 k
  have ih0 := awardingbodyref39_Numbers.mono_l k
  unfold awardingbodyref39_Numbers.f
  repeat' first
      | (with_reducible exact ih0 _ _ _ _)
      | (with_reducible exact awardingbodyref39_Words.mono _ _ _)
      | (with_reducible exact LeO.refl _)
      | (with_reducible exact LeO.none _)
      | (with_reducible refine LeO.ite ?_ ?_)
      | (with_reducible refine LeO.bind ?_ (fun _ => ?_))
      | exact ih0 _ _ _ _
      | exact awardingbodyref39_Words.mono _ _ _
      | exact LeO.none _
      | refine LeO.ite ?_ ?_
      | refine LeO.bind ?_ (fun _ => ?_)
set_option maxHeartbeats 8000000 in
set_option maxRecDepth 100000 in
theorem awardingbodyref39_Numbers.calls (k : Nat) (a0 : Int) (A1 : Option Addr) (c1 : Nat) (l1 : List Int) (r1 : Int) (r2 : Int) (r3 : Int) (r4 : Int) (w : World) (hr1 : Kd.C (Kd.int .i64) w A1 l1.length l1) (hc1 : l1.length ≤ c1) (h : awardingbodyref39_Numbers.f k a0 l1 = some (r1, r2, r3, r4)) :
    Calls Try.prog 24 #[.int .u32 a0, .slice A1 l1.length c1] w fun e w' => e = .returned (.agg #[.int .u32 r1, .int .u32 r2, .int .u32 r3, .int .u32 r4]) ∧ Below w.heap.size w w' := by
  have hu24 := Try.underlying24
  have HR1 := Aside0.mk hr1
  have HC1 := Aside0.mk hc1
  clear hr1 hc1
  have HB := Aside0.mk (Below.refl w.heap.size w)
  have H : (awardingbodyref39_Numbers.l0 k a0 l1 ([] : List Int) 0) = some (r1, r2, r3, r4) := h
  clear h
  have H' := Aside0.mk H
  clear H
  go_enter Try.func24, Try.ntmps24
  go_wp2_with (first | ((with_reducible refine gate_dst (N := 4) rfl ?_); refine box_event ?hg (N := 4) ?hd (cs := #[.int .u32 0, .int .u32 0, .int .u32 0, .int .u32 0]) (t := 24) ?hr ?_; (case hd => rfl); (case hg => rfl); (case hr => first | (go_simp; done) | (go_simp; rfl)); intro gb196 hg w3 hbox hb; have n0_ := Aside0.mk (below_step (by repeat (first | (with_reducible first | exact HB.out | apply below_alloc | apply pw_below_drewN | apply below_drew1) | exact HB.out)) hb); have n1_ := Aside0.mk (hbox); have n2_ := Aside0.mk ((by rw [hg]; exact (below_size (by repeat (first | (with_reducible first | exact HB.out | apply below_alloc | apply pw_below_drewN | apply below_drew1) | exact HB.out))) : w.heap.size ≤ gb196)); have n3_ := Aside0.mk ((by rw [hg]; exact (below_size (by repeat (first | (with_reducible first | exact HB.out | apply below_alloc | apply pw_below_drewN | apply below_drew1) | exact HB.out))) : w.heap.size ≤ gb196)); clear HB; have HB := n0_; have BK196 := n1_; have GW196 := n2_; have GE196 := n3_; clear n0_ n1_ n2_ n3_; clear hb hbox hg))
  go_loopg [5, 6] k (fun kq v5 v6 w' => ∃ (x5_1 : List Int) (x6_1 : Int), v6 = .int .i64 x6_1 ∧ Aside0 (awardingbodyref39_Numbers.l0 kq a0 l1 x5_1 x6_1 = some (r1, r2, r3, r4)) ∧ Aside0 (kq ≤ k) ∧ Aside0 (Kd.R (Kd.int .u32) 22 w' w.heap.size (fun _ => True) v5 x5_1) ∧ Aside0 (w'.heap[gb196]? = some (.cells #[.int .u32 0, .int .u32 0, .int .u32 0, .int .u32 0] 24 (0, 0))) ∧ Aside0 (Below w.heap.size w w'))
  case atStart => exact ⟨(([] : List Int)), (0), (by first | rfl | (simp; done) | (simp [*]; done)), H', ⟨Nat.le_refl _⟩, ⟨by first | exact Kd.R_nil _ _ _ _ _ | exact Kd.N_nil _ _ _ _ _ | exact Kd.V_nil _ _ _ _ _ | exact Kd.Q_nil _ _ _ _ _ | exact Kd.S_nil _ _ _ _ _⟩, ⟨by (with_reducible repeat (first | refine blk_drewN ?_ _ | refine blk_drew ?_ | refine blk_alloc ?_ _)); exact BK196.out⟩, ⟨by repeat (first | (with_reducible first | exact HB.out | apply below_alloc | apply pw_below_drewN | apply below_drew1 | refine below_set ?_ GE196.out) | exact HB.out)⟩⟩
  case round =>
    clear H'
    try clear c1
    try clear c2
    try clear p2
    obtain ⟨x5_1, x6_1, rfl, HA, HK1, HO_5, BK196, HB⟩ := hrel
    cases gk with
    | zero => exact absurd HA.out (by simp [awardingbodyref39_Numbers.l0])
    | succ k1 =>
      have H := HA.out
      clear HA
      simp only [awardingbodyref39_Numbers.l0] at H
      by_cases c4 : x6_1 < (l1.length : Int)
      · rw [if_pos c4] at H
        have c4b0 : decide (x6_1 < (l1.length : Int)) = true := decide_eq_true c4
        clear c4
        by_cases c5 : 0 ≤ x6_1
        · rw [if_pos c5] at H
          have c5b0 : decide (0 ≤ x6_1) = true := decide_eq_true c5
          clear c5
          obtain ⟨y198, hy198⟩ : ∃ y_ : List Int, y_ = (([(IntKind.u64.wrap (rd l1 x6_1)) % 4294967296, ((IntKind.u64.wrap (rd l1 x6_1)) / 4294967296) % 4294967296] : List Int)) := ⟨_, rfl⟩
          replace H : (if x5_1.length + y198.length < 35184372088832 then (awardingbodyref39_Numbers.l0 k1 a0 l1 (x5_1 ++ y198) (wrap64 (x6_1 + 1))) else (none)) = some (r1, r2, r3, r4) := by first | (rw [hy198]; with_reducible exact H) | (have H2_ := (Option.bind_some _ _).symm.trans H; rw [hy198]; with_reducible exact H2_) | (have H2_ := (Option.bind_some _ _).symm.trans H; with_reducible exact H2_) | with_reducible exact H | (rw [hy198]; exact H) | exact H
          have Ny198 := Aside0.mk hy198
          clear hy198
          by_cases c6 : x5_1.length + y198.length < 35184372088832
          · rw [if_pos c6] at H
            have LMc6 := Aside0.mk c6
            clear c6
            obtain ⟨y201, hy201⟩ : ∃ y_ : List Int, y_ = (x5_1 ++ y198) := ⟨_, rfl⟩
            replace H : (awardingbodyref39_Numbers.l0 k1 a0 l1 y201 (wrap64 (x6_1 + 1))) = some (r1, r2, r3, r4) := by first | (rw [hy201]; with_reducible exact H) | (have H2_ := (Option.bind_some _ _).symm.trans H; rw [hy201]; with_reducible exact H2_) | (have H2_ := (Option.bind_some _ _).symm.trans H; with_reducible exact H2_) | with_reducible exact H | (rw [hy201]; exact H) | exact H
            have Ny201 := Aside0.mk hy201
            clear hy201
            have H' := Aside0.mk H
            clear H
            have p197 : 0 ≤ (x6_1 : Int) := of_decide_eq_true (by first | (with_reducible assumption) | assumption)
            have q197 : x6_1 < (l1.length : Int) := of_decide_eq_true (by first | (with_reducible assumption) | assumption)
            obtain ⟨ad197, e197, hx197_0⟩ := Kd.at_int HR1.out x6_1 p197 q197
            cases e197
            replace hx197_0 := (HB.out.cell (World.block_lt_of_cell? w _ hx197_0)).trans hx197_0
            replace p197 := eq_true p197
            replace q197 := eq_true q197
            go_wp2_with (first | ((with_reducible refine gate_dst (N := 25) rfl ?_); refine Kd.R_lit (Kd.int .u32) _ 22 ?hg (N := 25) ?hd (xs := ([(IntKind.u64.wrap (rd l1 x6_1)) % 4294967296, ((IntKind.u64.wrap (rd l1 x6_1)) / 4294967296) % 4294967296] : List Int)) (inner := [.int .u32 ((IntKind.u64.wrap (rd l1 x6_1)) % 4294967296), .int .u32 (((IntKind.u64.wrap (rd l1 x6_1)) / 4294967296) % 4294967296)]) (ok := fun _ => True) (okp := fun _ => True) ?hr ?hp (fun _ hk => hk) trivial (Below.refl _ _) (Nat.le_refl _) (by simp) ?_; (case hd => rfl); (case hg => rfl); (case hr => first | (go_simp; done) | (go_simp; rfl)); (case hp => exact (Reps.one (show Kd.M (Kd.int .u32) _ _ _ ((IntKind.u64.wrap (rd l1 x6_1)) % 4294967296) [.int .u32 ((IntKind.u64.wrap (rd l1 x6_1)) % 4294967296)] from rfl) (Reps.one (show Kd.M (Kd.int .u32) _ _ _ (((IntKind.u64.wrap (rd l1 x6_1)) / 4294967296) % 4294967296) [.int .u32 (((IntKind.u64.wrap (rd l1 x6_1)) / 4294967296) % 4294967296)] from rfl) (Reps.none _ _)))); intro v199 w7 ho8 hb hg_ hnew_; clear hg_ hnew_; (first | rw [← Ny198.out] at ho8 | (simp only [Int.reduceToNat] at ho8; rw [← Ny198.out] at ho8)); have n0_ := Aside0.mk (Kd.R_elder' (by (with_reducible repeat (first | apply Kd.R_alloc | apply Kd.R_drewN | apply Kd.R_drew)); exact HO_5.out) (Kd.R_base ho8) hb); have n1_ := Aside0.mk (Kd.R_lower (Kd.R_new' ho8 (Kd.R_lt (by (with_reducible repeat (first | apply Kd.R_alloc | apply Kd.R_drewN | apply Kd.R_drew)); exact HO_5.out))) (below_size (by repeat (first | (with_reducible first | exact HB.out | apply below_alloc | apply pw_below_drewN | apply below_drew1 | refine below_set ?_ GE196.out) | exact HB.out)))); have n2_ := Aside0.mk (blk_below (g := gb196) (o := .cells #[.int .u32 0, .int .u32 0, .int .u32 0, .int .u32 0] 24 (0, 0)) (by (with_reducible repeat (first | refine blk_drewN ?_ _ | refine blk_drew ?_ | refine blk_alloc ?_ _)); exact BK196.out) hb); have n3_ := Aside0.mk (below_step (by repeat (first | (with_reducible first | exact HB.out | apply below_alloc | apply pw_below_drewN | apply below_drew1 | refine below_set ?_ GE196.out) | exact HB.out)) hb); clear HO_5; clear BK196; clear HB; have HO_5 := n0_; have HO200 := n1_; have BK196 := n2_; have HB := n3_; clear n0_ n1_ n2_ n3_; clear hb ho8; obtain ⟨Ao10, co10, eo10⟩ := Kd.R_slice HO200.out; subst eo10) | ((with_reducible refine gate_builtin (b := .append) (xs := #[.tmp 19, .tmp 25]) rfl ?_); at_builtin; refine Kd.R_append_rows (Kd.int .u32) (w0 := w) w.heap.size rfl (.tmp 19) (.tmp 25) 49 22 (.int .u32 0) 4 rfl Try.underlying49 info22 rfl (by decide) (by omega) u5 x5_1 y198 _ _ _ (fun k_ => some k_ ≠ (.slice Ao10 y198.length co10 : Value).ownBlock) (fun _ => False) rfl rfl ?aO ?aR (fun _ _ h => h) (fun _ h => h.elim) ?aF ?aB ?aS ?aL ?_; (case aR => repeat (first | exact (Kd.R_reads' HO200.out).2.2 | (with_reducible refine Kd.C_alloc ?_ _) | (with_reducible refine Kd.C_drewN ?_ _) | (with_reducible refine Kd.C_drew ?_))); (case aB => exact (by repeat (first | (with_reducible first | exact HB.out | apply below_alloc | apply pw_below_drewN | apply below_drew1 | refine below_set ?_ GE196.out) | exact HB.out))); (case aF => exact (fun k_ hk => Kd.fresh' (Kd.R_lt (by (with_reducible repeat (first | apply Kd.R_alloc | apply Kd.R_drewN | apply Kd.R_drew)); exact HO200.out)) k_ hk)); (case aO => exact (by (with_reducible repeat (first | apply Kd.R_alloc | apply Kd.R_drewN | apply Kd.R_drew)); exact Kd.R_mono HO_5.out (fun _ hk => hk.2))); (case aS => exact (below_size (by repeat (first | (with_reducible first | exact HB.out | apply below_alloc | apply pw_below_drewN | apply below_drew1 | refine below_set ?_ GE196.out) | exact HB.out)))); (case aL => have := LMc6.out; omega); intro v202 w9 ho hb hg hat; rw [← Ny201.out] at ho; have n0_ := Aside0.mk (blk_grown (g := gb196) (o := .cells #[.int .u32 0, .int .u32 0, .int .u32 0, .int .u32 0] 24 (0, 0)) (by (with_reducible repeat (first | refine blk_drewN ?_ _ | refine blk_drew ?_ | refine blk_alloc ?_ _)); exact BK196.out) hg (Kd.R_ne HO_5.out BK196.out (by decide))); have n1_ := Aside0.mk (Kd.R_after (ok := (fun _ => True)) (by (with_reducible repeat (first | apply Kd.R_alloc | apply Kd.R_drewN | apply Kd.R_drew)); exact HO200.out) hg hat); have n2_ := Aside0.mk (hb); have n3_ := Aside0.mk (ho); clear BK196; clear HO200; clear HB; clear HO_5; have BK196 := n0_; have HO200 := n1_; have HB := n2_; have HO203 := n3_; clear n0_ n1_ n2_ n3_; clear ho hb hg hat))
            go_roundg k1
            case measure => have := HK1.out; omega
            case rel => exact ⟨(y201), (wrap64 (x6_1 + 1)), (by first | rfl | (simp; done) | (simp [*]; done)), H', ⟨by have := HK1.out; omega⟩, ⟨by (with_reducible repeat (first | apply Kd.R_alloc | apply Kd.R_drewN | apply Kd.R_drew)); exact Kd.R_mono HO203.out (fun _ hk => trivial)⟩, ⟨by (with_reducible repeat (first | refine blk_drewN ?_ _ | refine blk_drew ?_ | refine blk_alloc ?_ _)); exact BK196.out⟩, ⟨by repeat (first | (with_reducible first | exact HB.out | apply below_alloc | apply pw_below_drewN | apply below_drew1 | refine below_set ?_ GE196.out) | exact HB.out)⟩⟩
          · rw [if_neg c6] at H
            exact absurd H (by simp)
        · rw [if_neg c5] at H
          exact absurd H (by simp)
      · rw [if_neg c4] at H
        have c4b0 : decide (x6_1 < (l1.length : Int)) = false := decide_eq_false c4
        clear c4
        replace H := Option.bind_eq_some_iff.mp H
        obtain ⟨⟨t204, t205, t206, t207⟩, A110, H⟩ := H
        replace H : (some (t204, t205, t206, t207)) = some (r1, r2, r3, r4) := H
        have A11 := Aside0.mk A110
        clear A110
        simp only [Option.some.injEq, Prod.mk.injEq] at H
        obtain ⟨rfl, rfl, rfl, rfl⟩ := H
        obtain ⟨Ao12, co12, eo12⟩ := Kd.R_slice HO_5.out
        subst eo12
        go_wp2_with (first | ((with_reducible refine gate_callee (f := 30) rfl ?_); refine goesL_ (some 29) rfl rfl Try.func30 (by kernel_rfl) rfl #[.int .u32 a0, .slice Ao12 x5_1.length co12] rfl (by (try simp only [List.map_toArray, List.map_cons, List.map_nil]); first | done | rfl | (simp only [List.length_drop, List.length_take]; rfl)) ?_; (with_reducible refine (awardingbodyref39_Words.calls k1 a0 _ _ x5_1 t204 t205 t206 t207 _ ?side1 ?side2 A11.out).mono ?_); (case side1 => repeat (first | exact (Kd.R_reads' HO_5.out).2.2 | (with_reducible refine Kd.C_alloc ?_ _) | (with_reducible refine Kd.C_drewN ?_ _) | (with_reducible refine Kd.C_drew ?_))); (case side2 => exact (Kd.R_reads' HO_5.out).2.1); rintro e w13 ⟨rfl, hb⟩; refine ⟨_, rfl, ?_⟩; have n0_ := Aside0.mk (Kd.R_below (by (with_reducible repeat (first | apply Kd.R_alloc | apply Kd.R_drewN | apply Kd.R_drew)); exact HO_5.out) hb); have n1_ := Aside0.mk (blk_below (g := gb196) (o := .cells #[.int .u32 0, .int .u32 0, .int .u32 0, .int .u32 0] 24 (0, 0)) (by (with_reducible repeat (first | refine blk_drewN ?_ _ | refine blk_drew ?_ | refine blk_alloc ?_ _)); exact BK196.out) hb); have n2_ := Aside0.mk (below_step (by repeat (first | (with_reducible first | exact HB.out | apply below_alloc | apply pw_below_drewN | apply below_drew1 | refine below_set ?_ GE196.out) | exact HB.out)) hb); clear HO_5; clear BK196; clear HB; have HO_5 := n0_; have BK196 := n1_; have HB := n2_; clear n0_ n1_ n2_; (try clear hb); (try clear hb2); (try clear hk); (try clear hi); have hcz14_0 : w13.cell? ⟨gb196, 0, none⟩ = some (.int .u32 0) := (blk_cell BK196.out 0).trans rfl; have hcz14_1 : w13.cell? ⟨gb196, 1, none⟩ = some (.int .u32 0) := (blk_cell BK196.out 1).trans rfl; have hcz14_2 : w13.cell? ⟨gb196, 2, none⟩ = some (.int .u32 0) := (blk_cell BK196.out 2).trans rfl; have hcz14_3 : w13.cell? ⟨gb196, 3, none⟩ = some (.int .u32 0) := (blk_cell BK196.out 3).trans rfl; have hfz14_0 := blk_frozen BK196.out 0; have hfz14_1 := blk_frozen BK196.out 1; have hfz14_2 := blk_frozen BK196.out 2; have hfz14_3 := blk_frozen BK196.out 3))
        refine bodyPost_ret (results_cell_row rfl _ _ gb196 24 #[.int .u32 t204, .int .u32 t205, .int .u32 t206, .int .u32 t207] (0, 0) _ rfl (by (with_reducible repeat (first | refine blk_drewN ?_ _ | refine blk_drew ?_ | refine blk_alloc ?_ _)); refine blk_put (cs := #[.int .u32 t204, .int .u32 t205, .int .u32 t206, .int .u32 0]) ?_ 3 _ rfl; (with_reducible repeat (first | refine blk_drewN ?_ _ | refine blk_drew ?_ | refine blk_alloc ?_ _)); refine blk_put (cs := #[.int .u32 t204, .int .u32 t205, .int .u32 0, .int .u32 0]) ?_ 2 _ rfl; (with_reducible repeat (first | refine blk_drewN ?_ _ | refine blk_drew ?_ | refine blk_alloc ?_ _)); refine blk_put (cs := #[.int .u32 t204, .int .u32 0, .int .u32 0, .int .u32 0]) ?_ 1 _ rfl; (with_reducible repeat (first | refine blk_drewN ?_ _ | refine blk_drew ?_ | refine blk_alloc ?_ _)); refine blk_put (cs := #[.int .u32 0, .int .u32 0, .int .u32 0, .int .u32 0]) ?_ 0 _ rfl; (with_reducible repeat (first | refine blk_drewN ?_ _ | refine blk_drew ?_ | refine blk_alloc ?_ _)); exact BK196.out) Try.underlying24 rfl (by kernel_rfl)) rfl ?_
        exact ⟨by first | rfl | (simp [errW_none, errW_some] <;> rfl) | (simp [*, errW_none, errW_some] <;> rfl), by repeat (first | (with_reducible first | exact HB.out | apply below_alloc | apply pw_below_drewN | apply below_drew1 | refine below_set ?_ GE196.out) | exact HB.out)⟩

/-! ### awardingbodyref41_numbers: function 25 -/
def awardingbodyref41_numbers.l0 : Nat → List Int → Int → Int → Int → Int → Int → Option (List Int)
  | 0, _, _, _, _, _, _ => none
  | k + 1, x1, x5, x209000, x209001, x209002, x209003 => if x5 < 4 then (if 0 ≤ x5 then (if x1.length < 17592186044416 then (awardingbodyref41_numbers.l0 k (x1 ++ [wrap64 (ix4 x5 x209000 x209001 x209002 x209003)]) (wrap64 (x5 + 1)) x209000 x209001 x209002 x209003) else (none)) else (none)) else (some x1)
def awardingbodyref41_numbers.f (k : Nat) (a0_0 : Int) (a0_1 : Int) (a0_2 : Int) (a0_3 : Int) (l1 : List Int) : Option (List Int) := awardingbodyref41_numbers.l0 k l1 0 a0_0 a0_1 a0_2 a0_3
theorem awardingbodyref41_numbers.mono_l : ∀ k, (∀ y0 y1 y2 y3 y4 y5, LeO (awardingbodyref41_numbers.l0 k y0 y1 y2 y3 y4 y5) (awardingbodyref41_numbers.l0 (k + 1) y0 y1 y2 y3 y4 y5))
  | 0 => fun _ _ _ _ _ _ r h => by simp [awardingbodyref41_numbers.l0] at h
  | k + 1 => by
    have ih0 := awardingbodyref41_numbers.mono_l k
    · intro y0 y1 y2 y3 y4 y5
      unfold awardingbodyref41_numbers.l0
      repeat' first
      | (with_reducible exact ih0 _ _ _ _ _ _)
      | (with_reducible exact LeO.refl _)
      | (with_reducible exact LeO.none _)
      | (with_reducible refine LeO.ite ?_ ?_)
      | (with_reducible refine LeO.bind ?_ (fun _ => ?_))
      | exact ih0 _ _ _ _ _ _
      | exact LeO.none _
      | refine LeO.ite ?_ ?_
      | refine LeO.bind ?_ (fun _ => ?_)
theorem awardingbodyref41_numbers.mono : ∀ a0 a1 a2 a3 a4 k, LeO (awardingbodyref41_numbers.f k a0 a1 a2 a3 a4) (awardingbodyref41_numbers.f (k + 1) a0 a1 a2 a3 a4) := by
  intro a0 a1 a2 a3 a4 k
  have ih0 := awardingbodyref41_numbers.mono_l k
  unfold awardingbodyref41_numbers.f
  repeat' first
      | (with_reducible exact ih0 _ _ _ _ _ _)
      | (with_reducible exact LeO.refl _)
      | (with_reducible exact LeO.none _)
      | (with_reducible refine LeO.ite ?_ ?_)
      | (with_reducible refine LeO.bind ?_ (fun _ => ?_))
      | exact ih0 _ _ _ _ _ _
      | exact LeO.none _
      | refine LeO.ite ?_ ?_
      | refine LeO.bind ?_ (fun _ => ?_)
set_option maxHeartbeats 8000000 in
set_option maxRecDepth 100000 in
theorem awardingbodyref41_numbers.calls (k : Nat) (a0_0 : Int) (a0_1 : Int) (a0_2 : Int) (a0_3 : Int) (P1_ : Nat → Prop) (u9000_ : Value) (l1 : List Int) (r : List Int) (w0 w : World) (hB : Below w0.heap.size w0 w) (ho1 : Kd.R (Kd.int .i64) 3 w w0.heap.size P1_ u9000_ l1) (h : awardingbodyref41_numbers.f k a0_0 a0_1 a0_2 a0_3 l1 = some r) :
    Calls Try.prog 25 #[.agg #[.int .u32 a0_0, .int .u32 a0_1, .int .u32 a0_2, .int .u32 a0_3], u9000_] w fun e w' => ∃ v0_ : Value, e = .returned (v0_) ∧ Kd.R (Kd.int .i64) 3 w' w0.heap.size (fun k_ => (P1_ k_ ∨ w.heap.size ≤ k_)) v0_ r ∧ Below w0.heap.size w0 w' ∧ Kept w w' (fun k_ => P1_ k_) := by
  have hu24 := Try.underlying24
  have HO1 := Aside0.mk (show Kd.R (Kd.int .i64) 3 w w0.heap.size (fun k_ => (P1_ k_ ∨ w.heap.size ≤ k_)) u9000_ l1 from Kd.R_mono ho1 (fun k_ hk => (.inl hk)))
  have HK := Aside0.mk (Kept.refl w (fun k_ => P1_ k_))
  have HW0 := Aside0.mk hB.size
  have HB := Aside0.mk hB
  clear hB
  have H : (awardingbodyref41_numbers.l0 k l1 0 a0_0 a0_1 a0_2 a0_3) = some r := h
  clear h
  have H' := Aside0.mk H
  clear H
  go_enter Try.func25, Try.ntmps25
  go_wp2_with (first | ((with_reducible refine gate_dst (N := 2) rfl ?_); refine box_event ?hg (N := 2) ?hd (cs := #[.int .u32 a0_0, .int .u32 a0_1, .int .u32 a0_2, .int .u32 a0_3]) (t := 24) ?hr ?_; (case hd => rfl); (case hg => rfl); (case hr => first | (go_simp; done) | (go_simp; rfl)); intro gb208 hg w3 hbox hb; have n0_ := Aside0.mk (Kd.R_below (by (with_reducible repeat (first | apply Kd.R_alloc | apply Kd.R_drewN | apply Kd.R_drew)); exact HO1.out) hb); have n1_ := Aside0.mk (Kept.below (S := (fun k_ => P1_ k_)) (by repeat (first | (with_reducible first | exact HK.out | apply Kept.alloc | apply Kept.drewN | apply Kept.drew) | exact HK.out)) hb); have n2_ := Aside0.mk (below_step (by repeat (first | (with_reducible first | exact HB.out | apply below_alloc | apply pw_below_drewN | apply below_drew1) | exact HB.out)) hb); have n3_ := Aside0.mk (hbox); have n4_ := Aside0.mk ((by rw [hg]; exact (by first | exact HK.out.1 | exact (show Kept w _ (fun k_ => P1_ k_) from by repeat (first | (with_reducible first | exact HK.out | apply Kept.alloc | apply Kept.drewN | apply Kept.drew) | exact HK.out)).1) : w.heap.size ≤ gb208)); have n5_ := Aside0.mk ((by rw [hg]; exact (below_size (by repeat (first | (with_reducible first | exact HB.out | apply below_alloc | apply pw_below_drewN | apply below_drew1) | exact HB.out))) : w0.heap.size ≤ gb208)); clear HO1; clear HK; clear HB; have HO1 := n0_; have HK := n1_; have HB := n2_; have BK208 := n3_; have GW208 := n4_; have GE208 := n5_; clear n0_ n1_ n2_ n3_ n4_ n5_; clear hb hbox hg))
  go_loopg [1, 5] k (fun kq v1 v5 w' => ∃ (x1_1 : List Int) (x5_1 : Int), v5 = .int .i64 x5_1 ∧ Aside0 (awardingbodyref41_numbers.l0 kq x1_1 x5_1 a0_0 a0_1 a0_2 a0_3 = some r) ∧ Aside0 (kq ≤ k) ∧ Aside0 (Kd.R (Kd.int .i64) 3 w' w0.heap.size (fun k_ => (P1_ k_ ∨ w.heap.size ≤ k_)) v1 x1_1) ∧ Aside0 (w'.heap[gb208]? = some (.cells #[.int .u32 a0_0, .int .u32 a0_1, .int .u32 a0_2, .int .u32 a0_3] 24 (0, 0))) ∧ Aside0 (Kept w w' (fun k_ => P1_ k_)) ∧ Aside0 (Below w0.heap.size w0 w'))
  case atStart => exact ⟨(l1), (0), (by first | rfl | (simp; done) | (simp [*]; done)), H', ⟨Nat.le_refl _⟩, ⟨by (with_reducible repeat (first | apply Kd.R_alloc | apply Kd.R_drewN | apply Kd.R_drew)); exact HO1.out⟩, ⟨by (with_reducible repeat (first | refine blk_drewN ?_ _ | refine blk_drew ?_ | refine blk_alloc ?_ _)); exact BK208.out⟩, ⟨by repeat (first | (with_reducible first | exact HK.out | apply Kept.alloc | apply Kept.drewN | apply Kept.drew | refine Kept.setCell ?_ (.inr GW208.out) _) | exact HK.out)⟩, ⟨by repeat (first | (with_reducible first | exact HB.out | apply below_alloc | apply pw_below_drewN | apply below_drew1 | refine below_set ?_ GE208.out) | exact HB.out)⟩⟩
  case round =>
    clear H'
    try clear c2
    try clear p2
    obtain ⟨x1_1, x5_1, rfl, HA, HK1, HO_1, BK208, HK, HB⟩ := hrel
    cases gk with
    | zero => exact absurd HA.out (by simp [awardingbodyref41_numbers.l0])
    | succ k1 =>
      have H := HA.out
      clear HA
      simp only [awardingbodyref41_numbers.l0] at H
      by_cases c4 : x5_1 < 4
      · rw [if_pos c4] at H
        have c4b0 : decide (x5_1 < 4) = true := decide_eq_true c4
        clear c4
        by_cases c5 : 0 ≤ x5_1
        · rw [if_pos c5] at H
          have c5b0 : decide (0 ≤ x5_1) = true := decide_eq_true c5
          clear c5
          by_cases c6 : x1_1.length < 17592186044416
          · rw [if_pos c6] at H
            have LMc6 := Aside0.mk c6
            clear c6
            obtain ⟨y209, hy209⟩ : ∃ y_ : List Int, y_ = (x1_1 ++ [wrap64 (ix4 x5_1 a0_0 a0_1 a0_2 a0_3)]) := ⟨_, rfl⟩
            replace H : (awardingbodyref41_numbers.l0 k1 y209 (wrap64 (x5_1 + 1)) a0_0 a0_1 a0_2 a0_3) = some r := by first | (rw [hy209]; with_reducible exact H) | (have H2_ := (Option.bind_some _ _).symm.trans H; rw [hy209]; with_reducible exact H2_) | (have H2_ := (Option.bind_some _ _).symm.trans H; with_reducible exact H2_) | with_reducible exact H | (rw [hy209]; exact H) | exact H
            have Ny209 := Aside0.mk hy209
            clear hy209
            have H' := Aside0.mk H
            clear H
            have hcz7_0 : wr.cell? ⟨gb208, 0, none⟩ = some (.int .u32 a0_0) := (blk_cell BK208.out 0).trans rfl
            have hcz7_1 : wr.cell? ⟨gb208, 1, none⟩ = some (.int .u32 a0_1) := (blk_cell BK208.out 1).trans rfl
            have hcz7_2 : wr.cell? ⟨gb208, 2, none⟩ = some (.int .u32 a0_2) := (blk_cell BK208.out 2).trans rfl
            have hcz7_3 : wr.cell? ⟨gb208, 3, none⟩ = some (.int .u32 a0_3) := (blk_cell BK208.out 3).trans rfl
            have hfz7_0 := blk_frozen BK208.out 0
            have hfz7_1 := blk_frozen BK208.out 1
            have hfz7_2 := blk_frozen BK208.out 2
            have hfz7_3 := blk_frozen BK208.out 3
            have p8 : 0 ≤ (x5_1 : Int) := of_decide_eq_true (by first | (with_reducible assumption) | assumption)
            have q8 : (x5_1 : Int) < 4 := of_decide_eq_true (by first | (with_reducible assumption) | assumption)
            have hx8 : wr.cell? ⟨gb208, (x5_1).toNat, none⟩ = some (.int .u32 (ix4 x5_1 a0_0 a0_1 a0_2 a0_3)) := ixcell4 BK208.out (decide_eq_true p8) (decide_eq_true (Int.lt_of_lt_of_le q8 (by decide)))
            replace p8 := eq_true p8
            replace q8 := eq_true q8
            go_wp2_with (first | ((with_reducible refine gate_builtin (b := .append) (xs := #[.tmp 10, .tmp 15]) rfl ?_); at_builtin; refine Kd.R_append (Kd.int .i64) (w0 := w0) w0.heap.size rfl (.tmp 10) (.tmp 15) 46 3 (.int .i64 0) 8 rfl Try.underlying46 info3 rfl (by decide) (by omega) u1 x1_1 (wrap64 (ix4 x5_1 a0_0 a0_1 a0_2 a0_3)) [.int .i64 (wrap64 (ix4 x5_1 a0_0 a0_1 a0_2 a0_3))] (fun k_ => (P1_ k_ ∨ w.heap.size ≤ k_)) (fun _ => False) rfl rfl ?aP (fun _ hk => hk.elim) ?aF ?aO ?aB ?aS ?aL ?_; (case aP => exact rfl); (case aB => exact (by repeat (first | (with_reducible first | exact HB.out | apply below_alloc | apply pw_below_drewN | apply below_drew1 | refine below_set ?_ GE208.out) | exact HB.out))); (case aF => exact (fun k_ hk => (.inr (Nat.le_trans (by first | exact HK.out.1 | exact (show Kept w _ (fun k_ => P1_ k_) from by repeat (first | (with_reducible first | exact HK.out | apply Kept.alloc | apply Kept.drewN | apply Kept.drew | refine Kept.setCell ?_ (.inr GW208.out) _) | exact HK.out)).1) hk)))); (case aO => exact (by (with_reducible repeat (first | apply Kd.R_alloc | apply Kd.R_drewN | apply Kd.R_drew)); exact HO_1.out)); (case aS => exact (below_size (by repeat (first | (with_reducible first | exact HB.out | apply below_alloc | apply pw_below_drewN | apply below_drew1 | refine below_set ?_ GE208.out) | exact HB.out)))); (case aL => have := LMc6.out; omega); intro v210 w9 ho hb hg hat; rw [← Ny209.out] at ho; have n0_ := Aside0.mk (blk_grown (g := gb208) (o := .cells #[.int .u32 a0_0, .int .u32 a0_1, .int .u32 a0_2, .int .u32 a0_3] 24 (0, 0)) (by (with_reducible repeat (first | refine blk_drewN ?_ _ | refine blk_drew ?_ | refine blk_alloc ?_ _)); exact BK208.out) hg (Kd.R_ne HO_1.out BK208.out (by decide))); have n1_ := Aside0.mk (hb); have n2_ := Aside0.mk (Kept.of_grown (S := (fun k_ => P1_ k_)) hg (by repeat (first | (with_reducible first | exact HK.out | apply Kept.alloc | apply Kept.drewN | apply Kept.drew | refine Kept.setCell ?_ (.inr GW208.out) _) | exact HK.out)) (fun k_ e_ => (HO_1.out.1 k_ e_))); have n3_ := Aside0.mk (ho); clear BK208; clear HB; clear HK; clear HO_1; have BK208 := n0_; have HB := n1_; have HK := n2_; have HO211 := n3_; clear n0_ n1_ n2_ n3_; clear ho hb hg hat))
            go_roundg k1
            case measure => have := HK1.out; omega
            case rel => exact ⟨(y209), (wrap64 (x5_1 + 1)), (by first | rfl | (simp; done) | (simp [*]; done)), H', ⟨by have := HK1.out; omega⟩, ⟨by (with_reducible repeat (first | apply Kd.R_alloc | apply Kd.R_drewN | apply Kd.R_drew)); exact HO211.out⟩, ⟨by (with_reducible repeat (first | refine blk_drewN ?_ _ | refine blk_drew ?_ | refine blk_alloc ?_ _)); exact BK208.out⟩, ⟨by repeat (first | (with_reducible first | exact HK.out | apply Kept.alloc | apply Kept.drewN | apply Kept.drew | refine Kept.setCell ?_ (.inr GW208.out) _) | exact HK.out)⟩, ⟨by repeat (first | (with_reducible first | exact HB.out | apply below_alloc | apply pw_below_drewN | apply below_drew1 | refine below_set ?_ GE208.out) | exact HB.out)⟩⟩
          · rw [if_neg c6] at H
            exact absurd H (by simp)
        · rw [if_neg c5] at H
          exact absurd H (by simp)
      · rw [if_neg c4] at H
        have c4b0 : decide (x5_1 < 4) = false := decide_eq_false c4
        clear c4
        obtain rfl := Option.some.inj H
        go_wp2
        go_ret
        exact ⟨_, by first | rfl | (simp [errW_none, errW_some] <;> rfl) | (simp [*, errW_none, errW_some] <;> rfl), by (with_reducible repeat (first | apply Kd.R_alloc | apply Kd.R_drewN | apply Kd.R_drew)); exact HO_1.out, by repeat (first | (with_reducible first | exact HB.out | apply below_alloc | apply pw_below_drewN | apply below_drew1 | refine below_set ?_ GE208.out) | exact HB.out), by repeat (first | (with_reducible first | exact HK.out | apply Kept.alloc | apply Kept.drewN | apply Kept.drew | refine Kept.setCell ?_ (.inr GW208.out) _) | exact HK.out)⟩

/-! ### awardingbodyref41_Challenge: function 18 -/
def awardingbodyref41_Challenge.f (k : Nat) (a0 : Int) (a1 : Int) (a2_0 : Int) (a2_1 : Int) (a2_2 : Int) (a2_3 : Int) : Option (Int) := (awardingbodyref41_numbers.f k a2_0 a2_1 a2_2 a2_3 (([a0, a1] : List Int))).bind fun t216 => ((awardingbodyref39_Numbers.f k 3 t216).bind fun bt219 => ((awardingbodyref41_first.f bt219.1 bt219.2.1 bt219.2.2.1 bt219.2.2.2).bind fun t223 => (some (Int.tmod t223 1073741789))))
theorem awardingbodyref41_Challenge.mono : ∀ a0 a1 a2 a3 a4 a5 k, LeO (awardingbodyref41_Challenge.f k a0 a1 a2 a3 a4 a5) (awardingbodyref41_Challenge.f (k + 1) a0 a1 a2 a3 a4 a5) := by
  intro a0 a1 a2 a3 a4 a5 k
  unfold awardingbodyref41_Challenge.f
  repeat' first
      | (with_reducible exact awardingbodyref39_Numbers.mono _ _ _)
      | (with_reducible exact awardingbodyref41_numbers.mono _ _ _ _ _ _)
      | (with_reducible exact LeO.refl _)
      | (with_reducible exact LeO.none _)
      | (with_reducible refine LeO.ite ?_ ?_)
      | (with_reducible refine LeO.bind ?_ (fun _ => ?_))
      | exact awardingbodyref39_Numbers.mono _ _ _
      | exact awardingbodyref41_numbers.mono _ _ _ _ _ _
      | exact LeO.none _
      | refine LeO.ite ?_ ?_
      | refine LeO.bind ?_ (fun _ => ?_)
set_option maxHeartbeats 8000000 in
set_option maxRecDepth 100000 in
theorem awardingbodyref41_Challenge.calls (k : Nat) (a0 : Int) (a1 : Int) (a2_0 : Int) (a2_1 : Int) (a2_2 : Int) (a2_3 : Int) (r : Int) (w : World) (h : awardingbodyref41_Challenge.f k a0 a1 a2_0 a2_1 a2_2 a2_3 = some r) :
    Calls Try.prog 18 #[.int .i64 a0, .int .i64 a1, .agg #[.int .u32 a2_0, .int .u32 a2_1, .int .u32 a2_2, .int .u32 a2_3]] w fun e w' => e = .returned (.int .i64 r) ∧ Below w.heap.size w w' := by
  have hu24 := Try.underlying24
  have HB := Aside0.mk (Below.refl w.heap.size w)
  have H : ((awardingbodyref41_numbers.f k a2_0 a2_1 a2_2 a2_3 (([a0, a1] : List Int))).bind fun t216 => ((awardingbodyref39_Numbers.f k 3 t216).bind fun bt219 => ((awardingbodyref41_first.f bt219.1 bt219.2.1 bt219.2.2.1 bt219.2.2.2).bind fun t223 => (some (Int.tmod t223 1073741789))))) = some r := h
  clear h
  obtain ⟨y213, hy213⟩ : ∃ y_ : List Int, y_ = (([a0, a1] : List Int)) := ⟨_, rfl⟩
  replace H : ((awardingbodyref41_numbers.f k a2_0 a2_1 a2_2 a2_3 y213).bind fun t216 => ((awardingbodyref39_Numbers.f k 3 t216).bind fun bt219 => ((awardingbodyref41_first.f bt219.1 bt219.2.1 bt219.2.2.1 bt219.2.2.2).bind fun t223 => (some (Int.tmod t223 1073741789))))) = some r := by first | (rw [hy213]; with_reducible exact H) | (have H2_ := (Option.bind_some _ _).symm.trans H; rw [hy213]; with_reducible exact H2_) | (have H2_ := (Option.bind_some _ _).symm.trans H; with_reducible exact H2_) | with_reducible exact H | (rw [hy213]; exact H) | exact H
  have Ny213 := Aside0.mk hy213
  clear hy213
  replace H := Option.bind_eq_some_iff.mp H
  obtain ⟨t216, A40, H⟩ := H
  replace H : ((awardingbodyref39_Numbers.f k 3 t216).bind fun bt219 => ((awardingbodyref41_first.f bt219.1 bt219.2.1 bt219.2.2.1 bt219.2.2.2).bind fun t223 => (some (Int.tmod t223 1073741789)))) = some r := H
  have A4 := Aside0.mk A40
  clear A40
  replace H := Option.bind_eq_some_iff.mp H
  obtain ⟨⟨t219, t220, t221, t222⟩, A50, H⟩ := H
  replace H : ((awardingbodyref41_first.f t219 t220 t221 t222).bind fun t223 => (some (Int.tmod t223 1073741789))) = some r := H
  have A5 := Aside0.mk A50
  clear A50
  replace H := Option.bind_eq_some_iff.mp H
  obtain ⟨t223, A60, H⟩ := H
  replace H : (some (Int.tmod t223 1073741789)) = some r := H
  have A6 := Aside0.mk A60
  clear A60
  obtain rfl := Option.some.inj H
  go_enter Try.func18, Try.ntmps18
  go_wp2_with (first | ((with_reducible refine gate_dst (N := 5) rfl ?_); refine box_event ?hg (N := 5) ?hd (cs := #[.int .u32 a2_0, .int .u32 a2_1, .int .u32 a2_2, .int .u32 a2_3]) (t := 24) ?hr ?_; (case hd => rfl); (case hg => rfl); (case hr => first | (go_simp; done) | (go_simp; rfl)); intro gb212 hg w7 hbox hb; have n0_ := Aside0.mk (below_step (by repeat (first | (with_reducible first | exact HB.out | apply below_alloc | apply pw_below_drewN | apply below_drew1) | exact HB.out)) hb); have n1_ := Aside0.mk (hbox); have n2_ := Aside0.mk ((by rw [hg]; exact (below_size (by repeat (first | (with_reducible first | exact HB.out | apply below_alloc | apply pw_below_drewN | apply below_drew1) | exact HB.out))) : w.heap.size ≤ gb212)); have n3_ := Aside0.mk ((by rw [hg]; exact (below_size (by repeat (first | (with_reducible first | exact HB.out | apply below_alloc | apply pw_below_drewN | apply below_drew1) | exact HB.out))) : w.heap.size ≤ gb212)); clear HB; have HB := n0_; have BK212 := n1_; have GW212 := n2_; have GE212 := n3_; clear n0_ n1_ n2_ n3_; clear hb hbox hg; have hcz8_0 : w7.cell? ⟨gb212, 0, none⟩ = some (.int .u32 a2_0) := (blk_cell BK212.out 0).trans rfl; have hcz8_1 : w7.cell? ⟨gb212, 1, none⟩ = some (.int .u32 a2_1) := (blk_cell BK212.out 1).trans rfl; have hcz8_2 : w7.cell? ⟨gb212, 2, none⟩ = some (.int .u32 a2_2) := (blk_cell BK212.out 2).trans rfl; have hcz8_3 : w7.cell? ⟨gb212, 3, none⟩ = some (.int .u32 a2_3) := (blk_cell BK212.out 3).trans rfl; have hfz8_0 := blk_frozen BK212.out 0; have hfz8_1 := blk_frozen BK212.out 1; have hfz8_2 := blk_frozen BK212.out 2; have hfz8_3 := blk_frozen BK212.out 3) | ((with_reducible refine gate_dst (N := 10) rfl ?_); refine Kd.R_lit (Kd.int .i64) _ 3 ?hg (N := 10) ?hd (xs := ([a0, a1] : List Int)) (inner := [.int .i64 a0, .int .i64 a1]) (ok := fun _ => True) (okp := fun _ => True) ?hr ?hp (fun _ hk => hk) trivial (Below.refl _ _) (Nat.le_refl _) (by simp) ?_; (case hd => rfl); (case hg => rfl); (case hr => first | (go_simp; done) | (go_simp; rfl)); (case hp => exact (Reps.one (show Kd.M (Kd.int .i64) _ _ _ a0 [.int .i64 a0] from rfl) (Reps.one (show Kd.M (Kd.int .i64) _ _ _ a1 [.int .i64 a1] from rfl) (Reps.none _ _)))); intro v214 w9 ho10 hb hg_ hnew_; clear hg_ hnew_; (first | rw [← Ny213.out] at ho10 | (simp only [Int.reduceToNat] at ho10; rw [← Ny213.out] at ho10)); have n0_ := Aside0.mk (Kd.R_lower ho10 (below_size (by repeat (first | (with_reducible first | exact HB.out | apply below_alloc | apply pw_below_drewN | apply below_drew1 | refine below_set ?_ GE212.out) | exact HB.out)))); have n1_ := Aside0.mk (blk_below (g := gb212) (o := .cells #[.int .u32 a2_0, .int .u32 a2_1, .int .u32 a2_2, .int .u32 a2_3] 24 (0, 0)) (by (with_reducible repeat (first | refine blk_drewN ?_ _ | refine blk_drew ?_ | refine blk_alloc ?_ _)); exact BK212.out) hb); have n2_ := Aside0.mk (below_step (by repeat (first | (with_reducible first | exact HB.out | apply below_alloc | apply pw_below_drewN | apply below_drew1 | refine below_set ?_ GE212.out) | exact HB.out)) hb); clear BK212; clear HB; have HO215 := n0_; have BK212 := n1_; have HB := n2_; clear n0_ n1_ n2_; clear hb ho10; obtain ⟨Ao11, co11, eo11⟩ := Kd.R_slice HO215.out; subst eo11) | ((with_reducible refine gate_callee (f := 25) rfl ?_); refine goesL_ (some 11) rfl rfl Try.func25 (by kernel_rfl) rfl #[.agg #[.int .u32 a2_0, .int .u32 a2_1, .int .u32 a2_2, .int .u32 a2_3], .slice Ao11 y213.length co11] rfl (by (try simp only [List.map_toArray, List.map_cons, List.map_nil]); first | done | rfl | (simp only [List.length_drop, List.length_take]; rfl)) ?_; (with_reducible refine (awardingbodyref41_numbers.calls k a2_0 a2_1 a2_2 a2_3 (fun k_ => some k_ = (.slice Ao11 y213.length co11 : Value).ownBlock) (.slice Ao11 y213.length co11) y213 t216 w _ ?side1 ?side2 A4.out).mono ?_); (case side1 => repeat (first | (with_reducible first | exact HB.out | apply below_alloc | apply pw_below_drewN | apply below_drew1 | refine below_set ?_ GE212.out) | exact HB.out)); (case side2 => exact Kd.R_tight rfl HO215.out); rintro e w12 ⟨v217, rfl, ho0, hb, hkp⟩; refine ⟨_, rfl, ?_⟩; have n0_ := Aside0.mk (blk_kept (by (with_reducible repeat (first | refine blk_drewN ?_ _ | refine blk_drew ?_ | refine blk_alloc ?_ _)); exact BK212.out) hkp (fun hs_ => (fun e_ => (Kd.R_ne HO215.out BK212.out (by decide)) e_) hs_)); have n1_ := Aside0.mk (Kd.R_mono (ok' := fun k_ => True) ho0 (fun k_ hk_ => trivial)); have n2_ := Aside0.mk (hb); clear BK212; clear HB; clear HO215; have BK212 := n0_; have HO218 := n1_; have HB := n2_; clear n0_ n1_ n2_; (try clear hb); (try clear hkp); (try clear ho0); obtain ⟨Ao13, co13, eo13⟩ := Kd.R_slice HO218.out; subst eo13) | ((with_reducible refine gate_callee (f := 24) rfl ?_); refine goesL_ (some 12) rfl rfl Try.func24 (by kernel_rfl) rfl #[.int .u32 3, .slice Ao13 t216.length co13] rfl (by (try simp only [List.map_toArray, List.map_cons, List.map_nil]); first | done | rfl | (simp only [List.length_drop, List.length_take]; rfl)) ?_; (with_reducible refine (awardingbodyref39_Numbers.calls k 3 _ _ t216 t219 t220 t221 t222 _ ?side1 ?side2 A5.out).mono ?_); (case side1 => repeat (first | exact (Kd.R_reads' HO218.out).2.2 | (with_reducible refine Kd.C_alloc ?_ _) | (with_reducible refine Kd.C_drewN ?_ _) | (with_reducible refine Kd.C_drew ?_))); (case side2 => exact (Kd.R_reads' HO218.out).2.1); rintro e w14 ⟨rfl, hb⟩; refine ⟨_, rfl, ?_⟩; have n0_ := Aside0.mk (Kd.R_below (by (with_reducible repeat (first | apply Kd.R_alloc | apply Kd.R_drewN | apply Kd.R_drew)); exact HO218.out) hb); have n1_ := Aside0.mk (blk_below (g := gb212) (o := .cells #[.int .u32 a2_0, .int .u32 a2_1, .int .u32 a2_2, .int .u32 a2_3] 24 (0, 0)) (by (with_reducible repeat (first | refine blk_drewN ?_ _ | refine blk_drew ?_ | refine blk_alloc ?_ _)); exact BK212.out) hb); have n2_ := Aside0.mk (below_step (by repeat (first | (with_reducible first | exact HB.out | apply below_alloc | apply pw_below_drewN | apply below_drew1 | refine below_set ?_ GE212.out) | exact HB.out)) hb); clear HO218; clear BK212; clear HB; have HO218 := n0_; have BK212 := n1_; have HB := n2_; clear n0_ n1_ n2_; (try clear hb); (try clear hb2); (try clear hk); (try clear hi)) | ((with_reducible refine gate_callee (f := 23) rfl ?_); refine goesL_ (some 13) rfl rfl Try.func23 (by kernel_rfl) rfl #[.agg #[.int .u32 t219, .int .u32 t220, .int .u32 t221, .int .u32 t222]] rfl (by (try simp only [List.map_toArray, List.map_cons, List.map_nil]); first | done | rfl | (simp only [List.length_drop, List.length_take]; rfl)) ?_; (with_reducible refine (awardingbodyref41_first.calls t219 t220 t221 t222 t223 _ A6.out).mono ?_); rintro e w15 ⟨rfl, hb⟩; refine ⟨_, rfl, ?_⟩; have n0_ := Aside0.mk (Kd.R_below (by (with_reducible repeat (first | apply Kd.R_alloc | apply Kd.R_drewN | apply Kd.R_drew)); exact HO218.out) hb); have n1_ := Aside0.mk (blk_below (g := gb212) (o := .cells #[.int .u32 a2_0, .int .u32 a2_1, .int .u32 a2_2, .int .u32 a2_3] 24 (0, 0)) (by (with_reducible repeat (first | refine blk_drewN ?_ _ | refine blk_drew ?_ | refine blk_alloc ?_ _)); exact BK212.out) hb); have n2_ := Aside0.mk (below_step (by repeat (first | (with_reducible first | exact HB.out | apply below_alloc | apply pw_below_drewN | apply below_drew1 | refine below_set ?_ GE212.out) | exact HB.out)) hb); clear HO218; clear BK212; clear HB; have HO218 := n0_; have BK212 := n1_; have HB := n2_; clear n0_ n1_ n2_; (try clear hb); (try clear hb2); (try clear hk); (try clear hi)))
  go_ret
  exact ⟨by first | rfl | (simp [errW_none, errW_some] <;> rfl) | (simp [*, errW_none, errW_some] <;> rfl), by repeat (first | (with_reducible first | exact HB.out | apply below_alloc | apply pw_below_drewN | apply below_drew1 | refine below_set ?_ GE212.out) | exact HB.out)⟩

/-! ### awardingbodyref41_Sign: function 12 -/
def awardingbodyref41_Sign.f (k : Nat) (a0 : Int) (a1_0 : Int) (a1_1 : Int) (a1_2 : Int) (a1_3 : Int) : Option (Int × Int × Int) := (awardingbodyref41_Public.f k a0).bind fun bt226 => (if bt226.2 = 0 then ((awardingbodyref41_numbers.f k a1_0 a1_1 a1_2 a1_3 (([a0] : List Int))).bind fun t231 => ((awardingbodyref39_Numbers.f k 4 t231).bind fun bt234 => ((awardingbodyref41_first.f bt234.1 bt234.2.1 bt234.2.2.1 bt234.2.2.2).bind fun t238 => ((awardingbodyref41_Power.f k 4 (wrap64 (1 + (Int.tmod t238 1073741788)))).bind fun t239 => ((awardingbodyref41_Challenge.f k t239 bt226.1 a1_0 a1_1 a1_2 a1_3).bind fun t240 => (some (t239, Int.tmod (wrap64 ((wrap64 (1 + (Int.tmod t238 1073741788))) + (wrap64 (t240 * a0)))) 1073741789, 0))))))) else (some (0, 0, bt226.2)))
theorem awardingbodyref41_Sign.mono : ∀ a0 a1 a2 a3 a4 k, LeO (awardingbodyref41_Sign.f k a0 a1 a2 a3 a4) (awardingbodyref41_Sign.f (k + 1) a0 a1 a2 a3 a4) := by
  intro a0 a1 a2 a3 a4 k
  unfold awardingbodyref41_Sign.f
  repeat' first
      | (with_reducible exact awardingbodyref39_Numbers.mono _ _ _)
      | (with_reducible exact awardingbodyref41_Challenge.mono _ _ _ _ _ _ _)
      | (with_reducible exact awardingbodyref41_Power.mono _ _ _)
      | (with_reducible exact awardingbodyref41_Public.mono _ _)
      | (with_reducible exact awardingbodyref41_numbers.mono _ _ _ _ _ _)
      | (with_reducible exact LeO.refl _)
      | (with_reducible exact LeO.none _)
      | (with_reducible refine LeO.ite ?_ ?_)
      | (with_reducible refine LeO.bind ?_ (fun _ => ?_))
      | exact awardingbodyref39_Numbers.mono _ _ _
      | exact awardingbodyref41_Challenge.mono _ _ _ _ _ _ _
      | exact awardingbodyref41_Power.mono _ _ _
      | exact awardingbodyref41_Public.mono _ _
      | exact awardingbodyref41_numbers.mono _ _ _ _ _ _
      | exact LeO.none _
      | refine LeO.ite ?_ ?_
      | refine LeO.bind ?_ (fun _ => ?_)
set_option maxHeartbeats 8000000 in
set_option maxRecDepth 100000 in
theorem awardingbodyref41_Sign.calls (k : Nat) (a0 : Int) (a1_0 : Int) (a1_1 : Int) (a1_2 : Int) (a1_3 : Int) (r1 : Int) (r2 : Int) (r3 : Int) (w : World) (h : awardingbodyref41_Sign.f k a0 a1_0 a1_1 a1_2 a1_3 = some (r1, r2, r3)) :
    Calls Try.prog 12 #[.int .i64 a0, .agg #[.int .u32 a1_0, .int .u32 a1_1, .int .u32 a1_2, .int .u32 a1_3]] w fun e w' => e = .returned (.tuple #[.agg #[.int .i64 r1, .int .i64 r2], .int .i64 r3]) ∧ Below w.heap.size w w' := by
  have hu24 := Try.underlying24
  have hu26 := Try.underlying26
  have HB := Aside0.mk (Below.refl w.heap.size w)
  have H : ((awardingbodyref41_Public.f k a0).bind fun bt226 => (if bt226.2 = 0 then ((awardingbodyref41_numbers.f k a1_0 a1_1 a1_2 a1_3 (([a0] : List Int))).bind fun t231 => ((awardingbodyref39_Numbers.f k 4 t231).bind fun bt234 => ((awardingbodyref41_first.f bt234.1 bt234.2.1 bt234.2.2.1 bt234.2.2.2).bind fun t238 => ((awardingbodyref41_Power.f k 4 (wrap64 (1 + (Int.tmod t238 1073741788)))).bind fun t239 => ((awardingbodyref41_Challenge.f k t239 bt226.1 a1_0 a1_1 a1_2 a1_3).bind fun t240 => (some (t239, Int.tmod (wrap64 ((wrap64 (1 + (Int.tmod t238 1073741788))) + (wrap64 (t240 * a0)))) 1073741789, 0))))))) else (some (0, 0, bt226.2)))) = some (r1, r2, r3) := h
  clear h
  replace H := Option.bind_eq_some_iff.mp H
  obtain ⟨⟨t226, t227⟩, A30, H⟩ := H
  replace H : (if t227 = 0 then ((awardingbodyref41_numbers.f k a1_0 a1_1 a1_2 a1_3 (([a0] : List Int))).bind fun t231 => ((awardingbodyref39_Numbers.f k 4 t231).bind fun bt234 => ((awardingbodyref41_first.f bt234.1 bt234.2.1 bt234.2.2.1 bt234.2.2.2).bind fun t238 => ((awardingbodyref41_Power.f k 4 (wrap64 (1 + (Int.tmod t238 1073741788)))).bind fun t239 => ((awardingbodyref41_Challenge.f k t239 t226 a1_0 a1_1 a1_2 a1_3).bind fun t240 => (some (t239, Int.tmod (wrap64 ((wrap64 (1 + (Int.tmod t238 1073741788))) + (wrap64 (t240 * a0)))) 1073741789, 0))))))) else (some (0, 0, t227))) = some (r1, r2, r3) := H
  have A3 := Aside0.mk A30
  clear A30
  by_cases c4 : t227 = 0
  · rw [if_pos c4] at H
    have c4b0 : (t227 == 0) = true := beq_iff_eq.mpr c4
    have c4b1 : (t227 != 0) = false := bne_eq_false_iff_eq.mpr c4
    clear c4
    obtain ⟨y228, hy228⟩ : ∃ y_ : List Int, y_ = (([a0] : List Int)) := ⟨_, rfl⟩
    replace H : ((awardingbodyref41_numbers.f k a1_0 a1_1 a1_2 a1_3 y228).bind fun t231 => ((awardingbodyref39_Numbers.f k 4 t231).bind fun bt234 => ((awardingbodyref41_first.f bt234.1 bt234.2.1 bt234.2.2.1 bt234.2.2.2).bind fun t238 => ((awardingbodyref41_Power.f k 4 (wrap64 (1 + (Int.tmod t238 1073741788)))).bind fun t239 => ((awardingbodyref41_Challenge.f k t239 t226 a1_0 a1_1 a1_2 a1_3).bind fun t240 => (some (t239, Int.tmod (wrap64 ((wrap64 (1 + (Int.tmod t238 1073741788))) + (wrap64 (t240 * a0)))) 1073741789, 0))))))) = some (r1, r2, r3) := by first | (rw [hy228]; with_reducible exact H) | (have H2_ := (Option.bind_some _ _).symm.trans H; rw [hy228]; with_reducible exact H2_) | (have H2_ := (Option.bind_some _ _).symm.trans H; with_reducible exact H2_) | with_reducible exact H | (rw [hy228]; exact H) | exact H
    have Ny228 := Aside0.mk hy228
    clear hy228
    replace H := Option.bind_eq_some_iff.mp H
    obtain ⟨t231, A50, H⟩ := H
    replace H : ((awardingbodyref39_Numbers.f k 4 t231).bind fun bt234 => ((awardingbodyref41_first.f bt234.1 bt234.2.1 bt234.2.2.1 bt234.2.2.2).bind fun t238 => ((awardingbodyref41_Power.f k 4 (wrap64 (1 + (Int.tmod t238 1073741788)))).bind fun t239 => ((awardingbodyref41_Challenge.f k t239 t226 a1_0 a1_1 a1_2 a1_3).bind fun t240 => (some (t239, Int.tmod (wrap64 ((wrap64 (1 + (Int.tmod t238 1073741788))) + (wrap64 (t240 * a0)))) 1073741789, 0)))))) = some (r1, r2, r3) := H
    have A5 := Aside0.mk A50
    clear A50
    replace H := Option.bind_eq_some_iff.mp H
    obtain ⟨⟨t234, t235, t236, t237⟩, A60, H⟩ := H
    replace H : ((awardingbodyref41_first.f t234 t235 t236 t237).bind fun t238 => ((awardingbodyref41_Power.f k 4 (wrap64 (1 + (Int.tmod t238 1073741788)))).bind fun t239 => ((awardingbodyref41_Challenge.f k t239 t226 a1_0 a1_1 a1_2 a1_3).bind fun t240 => (some (t239, Int.tmod (wrap64 ((wrap64 (1 + (Int.tmod t238 1073741788))) + (wrap64 (t240 * a0)))) 1073741789, 0))))) = some (r1, r2, r3) := H
    have A6 := Aside0.mk A60
    clear A60
    replace H := Option.bind_eq_some_iff.mp H
    obtain ⟨t238, A70, H⟩ := H
    replace H : ((awardingbodyref41_Power.f k 4 (wrap64 (1 + (Int.tmod t238 1073741788)))).bind fun t239 => ((awardingbodyref41_Challenge.f k t239 t226 a1_0 a1_1 a1_2 a1_3).bind fun t240 => (some (t239, Int.tmod (wrap64 ((wrap64 (1 + (Int.tmod t238 1073741788))) + (wrap64 (t240 * a0)))) 1073741789, 0)))) = some (r1, r2, r3) := H
    have A7 := Aside0.mk A70
    clear A70
    replace H := Option.bind_eq_some_iff.mp H
    obtain ⟨t239, A80, H⟩ := H
    replace H : ((awardingbodyref41_Challenge.f k t239 t226 a1_0 a1_1 a1_2 a1_3).bind fun t240 => (some (t239, Int.tmod (wrap64 ((wrap64 (1 + (Int.tmod t238 1073741788))) + (wrap64 (t240 * a0)))) 1073741789, 0))) = some (r1, r2, r3) := H
    have A8 := Aside0.mk A80
    clear A80
    replace H := Option.bind_eq_some_iff.mp H
    obtain ⟨t240, A90, H⟩ := H
    replace H : (some (t239, Int.tmod (wrap64 ((wrap64 (1 + (Int.tmod t238 1073741788))) + (wrap64 (t240 * a0)))) 1073741789, 0)) = some (r1, r2, r3) := H
    have A9 := Aside0.mk A90
    clear A90
    simp only [Option.some.injEq, Prod.mk.injEq] at H
    obtain ⟨rfl, rfl, rfl⟩ := H
    go_enter Try.func12, Try.ntmps12
    go_wp2_with (first | ((with_reducible refine gate_dst (N := 3) rfl ?_); refine box_event ?hg (N := 3) ?hd (cs := #[.int .u32 a1_0, .int .u32 a1_1, .int .u32 a1_2, .int .u32 a1_3]) (t := 24) ?hr ?_; (case hd => rfl); (case hg => rfl); (case hr => first | (go_simp; done) | (go_simp; rfl)); intro gb224 hg w10 hbox hb; have n0_ := Aside0.mk (below_step (by repeat (first | (with_reducible first | exact HB.out | apply below_alloc | apply pw_below_drewN | apply below_drew1) | exact HB.out)) hb); have n1_ := Aside0.mk (hbox); have n2_ := Aside0.mk ((by rw [hg]; exact (below_size (by repeat (first | (with_reducible first | exact HB.out | apply below_alloc | apply pw_below_drewN | apply below_drew1) | exact HB.out))) : w.heap.size ≤ gb224)); have n3_ := Aside0.mk ((by rw [hg]; exact (below_size (by repeat (first | (with_reducible first | exact HB.out | apply below_alloc | apply pw_below_drewN | apply below_drew1) | exact HB.out))) : w.heap.size ≤ gb224)); clear HB; have HB := n0_; have BK224 := n1_; have GW224 := n2_; have GE224 := n3_; clear n0_ n1_ n2_ n3_; clear hb hbox hg) | ((with_reducible refine gate_dst (N := 4) rfl ?_); refine box_event ?hg (N := 4) ?hd (cs := #[.int .i64 0, .int .i64 0]) (t := 26) ?hr ?_; (case hd => rfl); (case hg => rfl); (case hr => first | (go_simp; done) | (go_simp; rfl)); intro gb225 hg w11 hbox hb; have n0_ := Aside0.mk (blk_below (g := gb224) (o := .cells #[.int .u32 a1_0, .int .u32 a1_1, .int .u32 a1_2, .int .u32 a1_3] 24 (0, 0)) (by (with_reducible repeat (first | refine blk_drewN ?_ _ | refine blk_drew ?_ | refine blk_alloc ?_ _)); exact BK224.out) hb); have n1_ := Aside0.mk (below_step (by repeat (first | (with_reducible first | exact HB.out | apply below_alloc | apply pw_below_drewN | apply below_drew1 | refine below_set ?_ GE224.out) | exact HB.out)) hb); have n2_ := Aside0.mk (hbox); have n3_ := Aside0.mk ((by rw [hg]; exact (below_size (by repeat (first | (with_reducible first | exact HB.out | apply below_alloc | apply pw_below_drewN | apply below_drew1 | refine below_set ?_ GE224.out) | exact HB.out))) : w.heap.size ≤ gb225)); have n4_ := Aside0.mk ((by rw [hg]; exact (below_size (by repeat (first | (with_reducible first | exact HB.out | apply below_alloc | apply pw_below_drewN | apply below_drew1 | refine below_set ?_ GE224.out) | exact HB.out))) : w.heap.size ≤ gb225)); have n5_ := Aside0.mk ((by rw [hg]; exact Nat.ne_of_lt (blk_lt (g := gb224) (o := .cells #[.int .u32 a1_0, .int .u32 a1_1, .int .u32 a1_2, .int .u32 a1_3] 24 (0, 0)) (by (with_reducible repeat (first | refine blk_drewN ?_ _ | refine blk_drew ?_ | refine blk_alloc ?_ _)); exact BK224.out)) : gb224 ≠ gb225)); have n6_ := Aside0.mk ((by rw [hg]; exact Nat.ne_of_gt (blk_lt (g := gb224) (o := .cells #[.int .u32 a1_0, .int .u32 a1_1, .int .u32 a1_2, .int .u32 a1_3] 24 (0, 0)) (by (with_reducible repeat (first | refine blk_drewN ?_ _ | refine blk_drew ?_ | refine blk_alloc ?_ _)); exact BK224.out)) : gb225 ≠ gb224)); clear BK224; clear HB; have BK224 := n0_; have HB := n1_; have BK225 := n2_; have GW225 := n3_; have GE225 := n4_; have NB224_225 := n5_; have NB225_224 := n6_; clear n0_ n1_ n2_ n3_ n4_ n5_ n6_; clear hb hbox hg) | ((with_reducible refine gate_callee (f := 10) rfl ?_); refine goesL_ (some 12) rfl rfl Try.func10 (by kernel_rfl) rfl #[.int .i64 a0] rfl (by (try simp only [List.map_toArray, List.map_cons, List.map_nil]); first | done | rfl | (simp only [List.length_drop, List.length_take]; rfl)) ?_; (with_reducible refine (awardingbodyref41_Public.calls k a0 t226 t227 _ A3.out).mono ?_); rintro e w' ⟨rfl, ⟨nd, rfl⟩⟩; refine ⟨_, rfl, ?_⟩; (try (rw [drewN_self w11]; generalize hq_ : World.drewN w11 _ = w11; have n0_ : Aside0 (w11.heap[gb224]? = some (.cells #[.int .u32 a1_0, .int .u32 a1_1, .int .u32 a1_2, .int .u32 a1_3] 24 (0, 0))) := ⟨by rw [← hq_]; exact (by (with_reducible repeat (first | refine blk_drewN ?_ _ | refine blk_drew ?_ | refine blk_alloc ?_ _)); exact BK224.out)⟩; have n1_ : Aside0 (w11.heap[gb225]? = some (.cells #[.int .i64 0, .int .i64 0] 26 (0, 0))) := ⟨by rw [← hq_]; exact (by (with_reducible repeat (first | refine blk_drewN ?_ _ | refine blk_drew ?_ | refine blk_alloc ?_ _)); exact BK225.out)⟩; have n2_ : Aside0 (Below w.heap.size w w11) := ⟨by rw [← hq_]; exact (by repeat (first | (with_reducible first | exact HB.out | apply below_alloc | apply pw_below_drewN | apply below_drew1 | refine below_set ?_ GE224.out | refine below_set ?_ GE225.out) | exact HB.out))⟩; clear BK224 BK225 HB hq_; have BK224 := n0_; have BK225 := n1_; have HB := n2_; clear n0_ n1_ n2_)); have hnb12 := NB224_225.out; have hnc12 := NB225_224.out; have hcz13_0 : w11.cell? ⟨gb224, 0, none⟩ = some (.int .u32 a1_0) := (blk_cell BK224.out 0).trans rfl; have hcz13_1 : w11.cell? ⟨gb224, 1, none⟩ = some (.int .u32 a1_1) := (blk_cell BK224.out 1).trans rfl; have hcz13_2 : w11.cell? ⟨gb224, 2, none⟩ = some (.int .u32 a1_2) := (blk_cell BK224.out 2).trans rfl; have hcz13_3 : w11.cell? ⟨gb224, 3, none⟩ = some (.int .u32 a1_3) := (blk_cell BK224.out 3).trans rfl; have hfz13_0 := blk_frozen BK224.out 0; have hfz13_1 := blk_frozen BK224.out 1; have hfz13_2 := blk_frozen BK224.out 2; have hfz13_3 := blk_frozen BK224.out 3) | ((with_reducible refine gate_dst (N := 21) rfl ?_); refine Kd.R_lit (Kd.int .i64) _ 3 ?hg (N := 21) ?hd (xs := ([a0] : List Int)) (inner := [.int .i64 a0]) (ok := fun _ => True) (okp := fun _ => True) ?hr ?hp (fun _ hk => hk) trivial (Below.refl _ _) (Nat.le_refl _) (by simp) ?_; (case hd => rfl); (case hg => rfl); (case hr => first | (go_simp; done) | (go_simp; rfl)); (case hp => exact (Reps.one (show Kd.M (Kd.int .i64) _ _ _ a0 [.int .i64 a0] from rfl) (Reps.none _ _))); intro v229 w14 ho15 hb hg_ hnew_; clear hg_ hnew_; (first | rw [← Ny228.out] at ho15 | (simp only [Int.reduceToNat] at ho15; rw [← Ny228.out] at ho15)); have n0_ := Aside0.mk (Kd.R_lower ho15 (below_size (by repeat (first | (with_reducible first | exact HB.out | apply below_alloc | apply pw_below_drewN | apply below_drew1 | refine below_set ?_ GE224.out | refine below_set ?_ GE225.out) | exact HB.out)))); have n1_ := Aside0.mk (blk_below (g := gb224) (o := .cells #[.int .u32 a1_0, .int .u32 a1_1, .int .u32 a1_2, .int .u32 a1_3] 24 (0, 0)) (by (with_reducible repeat (first | refine blk_drewN ?_ _ | refine blk_drew ?_ | refine blk_alloc ?_ _)); exact BK224.out) hb); have n2_ := Aside0.mk (blk_below (g := gb225) (o := .cells #[.int .i64 0, .int .i64 0] 26 (0, 0)) (by (with_reducible repeat (first | refine blk_drewN ?_ _ | refine blk_drew ?_ | refine blk_alloc ?_ _)); exact BK225.out) hb); have n3_ := Aside0.mk (below_step (by repeat (first | (with_reducible first | exact HB.out | apply below_alloc | apply pw_below_drewN | apply below_drew1 | refine below_set ?_ GE224.out | refine below_set ?_ GE225.out) | exact HB.out)) hb); clear BK224; clear BK225; clear HB; have HO230 := n0_; have BK224 := n1_; have BK225 := n2_; have HB := n3_; clear n0_ n1_ n2_ n3_; clear hb ho15; obtain ⟨Ao16, co16, eo16⟩ := Kd.R_slice HO230.out; subst eo16) | ((with_reducible refine gate_callee (f := 25) rfl ?_); refine goesL_ (some 22) rfl rfl Try.func25 (by kernel_rfl) rfl #[.agg #[.int .u32 a1_0, .int .u32 a1_1, .int .u32 a1_2, .int .u32 a1_3], .slice Ao16 y228.length co16] rfl (by (try simp only [List.map_toArray, List.map_cons, List.map_nil]); first | done | rfl | (simp only [List.length_drop, List.length_take]; rfl)) ?_; (with_reducible refine (awardingbodyref41_numbers.calls k a1_0 a1_1 a1_2 a1_3 (fun k_ => some k_ = (.slice Ao16 y228.length co16 : Value).ownBlock) (.slice Ao16 y228.length co16) y228 t231 w _ ?side1 ?side2 A5.out).mono ?_); (case side1 => repeat (first | (with_reducible first | exact HB.out | apply below_alloc | apply pw_below_drewN | apply below_drew1 | refine below_set ?_ GE224.out | refine below_set ?_ GE225.out) | exact HB.out)); (case side2 => exact Kd.R_tight rfl HO230.out); rintro e w17 ⟨v232, rfl, ho0, hb, hkp⟩; refine ⟨_, rfl, ?_⟩; have n0_ := Aside0.mk (blk_kept (by (with_reducible repeat (first | refine blk_drewN ?_ _ | refine blk_drew ?_ | refine blk_alloc ?_ _)); exact BK224.out) hkp (fun hs_ => (fun e_ => (Kd.R_ne HO230.out BK224.out (by decide)) e_) hs_)); have n1_ := Aside0.mk (blk_kept (by (with_reducible repeat (first | refine blk_drewN ?_ _ | refine blk_drew ?_ | refine blk_alloc ?_ _)); exact BK225.out) hkp (fun hs_ => (fun e_ => (Kd.R_ne HO230.out BK225.out (by decide)) e_) hs_)); have n2_ := Aside0.mk (Kd.R_mono (ok' := fun k_ => True) ho0 (fun k_ hk_ => trivial)); have n3_ := Aside0.mk (hb); clear BK224; clear BK225; clear HB; clear HO230; have BK224 := n0_; have BK225 := n1_; have HO233 := n2_; have HB := n3_; clear n0_ n1_ n2_ n3_; (try clear hb); (try clear hkp); (try clear ho0); obtain ⟨Ao18, co18, eo18⟩ := Kd.R_slice HO233.out; subst eo18) | ((with_reducible refine gate_callee (f := 24) rfl ?_); refine goesL_ (some 23) rfl rfl Try.func24 (by kernel_rfl) rfl #[.int .u32 4, .slice Ao18 t231.length co18] rfl (by (try simp only [List.map_toArray, List.map_cons, List.map_nil]); first | done | rfl | (simp only [List.length_drop, List.length_take]; rfl)) ?_; (with_reducible refine (awardingbodyref39_Numbers.calls k 4 _ _ t231 t234 t235 t236 t237 _ ?side1 ?side2 A6.out).mono ?_); (case side1 => repeat (first | exact (Kd.R_reads' HO233.out).2.2 | (with_reducible refine Kd.C_alloc ?_ _) | (with_reducible refine Kd.C_drewN ?_ _) | (with_reducible refine Kd.C_drew ?_))); (case side2 => exact (Kd.R_reads' HO233.out).2.1); rintro e w19 ⟨rfl, hb⟩; refine ⟨_, rfl, ?_⟩; have n0_ := Aside0.mk (Kd.R_below (by (with_reducible repeat (first | apply Kd.R_alloc | apply Kd.R_drewN | apply Kd.R_drew)); exact HO233.out) hb); have n1_ := Aside0.mk (blk_below (g := gb224) (o := .cells #[.int .u32 a1_0, .int .u32 a1_1, .int .u32 a1_2, .int .u32 a1_3] 24 (0, 0)) (by (with_reducible repeat (first | refine blk_drewN ?_ _ | refine blk_drew ?_ | refine blk_alloc ?_ _)); exact BK224.out) hb); have n2_ := Aside0.mk (blk_below (g := gb225) (o := .cells #[.int .i64 0, .int .i64 0] 26 (0, 0)) (by (with_reducible repeat (first | refine blk_drewN ?_ _ | refine blk_drew ?_ | refine blk_alloc ?_ _)); exact BK225.out) hb); have n3_ := Aside0.mk (below_step (by repeat (first | (with_reducible first | exact HB.out | apply below_alloc | apply pw_below_drewN | apply below_drew1 | refine below_set ?_ GE224.out | refine below_set ?_ GE225.out) | exact HB.out)) hb); clear HO233; clear BK224; clear BK225; clear HB; have HO233 := n0_; have BK224 := n1_; have BK225 := n2_; have HB := n3_; clear n0_ n1_ n2_ n3_; (try clear hb); (try clear hb2); (try clear hk); (try clear hi)) | ((with_reducible refine gate_callee (f := 23) rfl ?_); refine goesL_ (some 24) rfl rfl Try.func23 (by kernel_rfl) rfl #[.agg #[.int .u32 t234, .int .u32 t235, .int .u32 t236, .int .u32 t237]] rfl (by (try simp only [List.map_toArray, List.map_cons, List.map_nil]); first | done | rfl | (simp only [List.length_drop, List.length_take]; rfl)) ?_; (with_reducible refine (awardingbodyref41_first.calls t234 t235 t236 t237 t238 _ A7.out).mono ?_); rintro e w20 ⟨rfl, hb⟩; refine ⟨_, rfl, ?_⟩; have n0_ := Aside0.mk (Kd.R_below (by (with_reducible repeat (first | apply Kd.R_alloc | apply Kd.R_drewN | apply Kd.R_drew)); exact HO233.out) hb); have n1_ := Aside0.mk (blk_below (g := gb224) (o := .cells #[.int .u32 a1_0, .int .u32 a1_1, .int .u32 a1_2, .int .u32 a1_3] 24 (0, 0)) (by (with_reducible repeat (first | refine blk_drewN ?_ _ | refine blk_drew ?_ | refine blk_alloc ?_ _)); exact BK224.out) hb); have n2_ := Aside0.mk (blk_below (g := gb225) (o := .cells #[.int .i64 0, .int .i64 0] 26 (0, 0)) (by (with_reducible repeat (first | refine blk_drewN ?_ _ | refine blk_drew ?_ | refine blk_alloc ?_ _)); exact BK225.out) hb); have n3_ := Aside0.mk (below_step (by repeat (first | (with_reducible first | exact HB.out | apply below_alloc | apply pw_below_drewN | apply below_drew1 | refine below_set ?_ GE224.out | refine below_set ?_ GE225.out) | exact HB.out)) hb); clear HO233; clear BK224; clear BK225; clear HB; have HO233 := n0_; have BK224 := n1_; have BK225 := n2_; have HB := n3_; clear n0_ n1_ n2_ n3_; (try clear hb); (try clear hb2); (try clear hk); (try clear hi)) | ((with_reducible refine gate_callee (f := 16) rfl ?_); refine goesL_ (some 28) rfl rfl Try.func16 (by kernel_rfl) rfl #[.int .i64 4, .int .i64 (wrap64 (1 + (Int.tmod t238 1073741788)))] rfl (by (try simp only [List.map_toArray, List.map_cons, List.map_nil]); first | done | rfl | (simp only [List.length_drop, List.length_take]; rfl)) ?_; (with_reducible refine (awardingbodyref41_Power.calls k 4 (wrap64 (1 + (Int.tmod t238 1073741788))) t239 _ A8.out).mono ?_); rintro e w' ⟨rfl, ⟨nd, rfl⟩⟩; refine ⟨_, rfl, ?_⟩; (try (rw [drewN_self w20]; generalize hq_ : World.drewN w20 _ = w20; have n0_ : Aside0 (Kd.R (Kd.int .i64) 3 w20 w.heap.size (fun _ => True) (.slice Ao18 t231.length co18) t231) := ⟨by rw [← hq_]; exact (by (with_reducible repeat (first | apply Kd.R_alloc | apply Kd.R_drewN | apply Kd.R_drew)); exact HO233.out)⟩; have n1_ : Aside0 (w20.heap[gb224]? = some (.cells #[.int .u32 a1_0, .int .u32 a1_1, .int .u32 a1_2, .int .u32 a1_3] 24 (0, 0))) := ⟨by rw [← hq_]; exact (by (with_reducible repeat (first | refine blk_drewN ?_ _ | refine blk_drew ?_ | refine blk_alloc ?_ _)); exact BK224.out)⟩; have n2_ : Aside0 (w20.heap[gb225]? = some (.cells #[.int .i64 0, .int .i64 0] 26 (0, 0))) := ⟨by rw [← hq_]; exact (by (with_reducible repeat (first | refine blk_drewN ?_ _ | refine blk_drew ?_ | refine blk_alloc ?_ _)); exact BK225.out)⟩; have n3_ : Aside0 (Below w.heap.size w w20) := ⟨by rw [← hq_]; exact (by repeat (first | (with_reducible first | exact HB.out | apply below_alloc | apply pw_below_drewN | apply below_drew1 | refine below_set ?_ GE224.out | refine below_set ?_ GE225.out) | exact HB.out))⟩; clear HO233 BK224 BK225 HB hq_; have HO233 := n0_; have BK224 := n1_; have BK225 := n2_; have HB := n3_; clear n0_ n1_ n2_ n3_)); have hcz21_0 : w20.cell? ⟨gb224, 0, none⟩ = some (.int .u32 a1_0) := (blk_cell BK224.out 0).trans rfl; have hcz21_1 : w20.cell? ⟨gb224, 1, none⟩ = some (.int .u32 a1_1) := (blk_cell BK224.out 1).trans rfl; have hcz21_2 : w20.cell? ⟨gb224, 2, none⟩ = some (.int .u32 a1_2) := (blk_cell BK224.out 2).trans rfl; have hcz21_3 : w20.cell? ⟨gb224, 3, none⟩ = some (.int .u32 a1_3) := (blk_cell BK224.out 3).trans rfl; have hfz21_0 := blk_frozen BK224.out 0; have hfz21_1 := blk_frozen BK224.out 1; have hfz21_2 := blk_frozen BK224.out 2; have hfz21_3 := blk_frozen BK224.out 3) | ((with_reducible refine gate_callee (f := 18) rfl ?_); refine goesL_ (some 34) rfl rfl Try.func18 (by kernel_rfl) rfl #[.int .i64 t239, .int .i64 t226, .agg #[.int .u32 a1_0, .int .u32 a1_1, .int .u32 a1_2, .int .u32 a1_3]] rfl (by (try simp only [List.map_toArray, List.map_cons, List.map_nil]); first | done | rfl | (simp only [List.length_drop, List.length_take]; rfl)) ?_; (with_reducible refine (awardingbodyref41_Challenge.calls k t239 t226 a1_0 a1_1 a1_2 a1_3 t240 _ A9.out).mono ?_); rintro e w22 ⟨rfl, hb⟩; refine ⟨_, rfl, ?_⟩; have n0_ := Aside0.mk (Kd.R_below (by (with_reducible repeat (first | apply Kd.R_alloc | apply Kd.R_drewN | apply Kd.R_drew)); exact HO233.out) hb); have n1_ := Aside0.mk (blk_below (g := gb224) (o := .cells #[.int .u32 a1_0, .int .u32 a1_1, .int .u32 a1_2, .int .u32 a1_3] 24 (0, 0)) (by (with_reducible repeat (first | refine blk_drewN ?_ _ | refine blk_drew ?_ | refine blk_alloc ?_ _)); exact BK224.out) hb); have n2_ := Aside0.mk (blk_below (g := gb225) (o := .cells #[.int .i64 0, .int .i64 0] 26 (0, 0)) (by (with_reducible repeat (first | refine blk_drewN ?_ _ | refine blk_drew ?_ | refine blk_alloc ?_ _)); exact BK225.out) hb); have n3_ := Aside0.mk (below_step (by repeat (first | (with_reducible first | exact HB.out | apply below_alloc | apply pw_below_drewN | apply below_drew1 | refine below_set ?_ GE224.out | refine below_set ?_ GE225.out) | exact HB.out)) hb); clear HO233; clear BK224; clear BK225; clear HB; have HO233 := n0_; have BK224 := n1_; have BK225 := n2_; have HB := n3_; clear n0_ n1_ n2_ n3_; (try clear hb); (try clear hb2); (try clear hk); (try clear hi); have hcz23_0 : w22.cell? ⟨gb225, 0, none⟩ = some (.int .i64 0) := (blk_cell BK225.out 0).trans rfl; have hcz23_1 : w22.cell? ⟨gb225, 1, none⟩ = some (.int .i64 0) := (blk_cell BK225.out 1).trans rfl; have hfz23_0 := blk_frozen BK225.out 0; have hfz23_1 := blk_frozen BK225.out 1))
    refine bodyPost_ret (results_ct rfl _ _ gb225 26 #[.int .i64 t239, .int .i64 (Int.tmod (wrap64 ((wrap64 (1 + (Int.tmod t238 1073741788))) + (wrap64 (t240 * a0)))) 1073741789)] (0, 0) _ rfl (by (with_reducible repeat (first | refine blk_drewN ?_ _ | refine blk_drew ?_ | refine blk_alloc ?_ _)); refine blk_put (cs := #[.int .i64 t239, .int .i64 0]) ?_ 1 _ rfl; (with_reducible repeat (first | refine blk_drewN ?_ _ | refine blk_drew ?_ | refine blk_alloc ?_ _)); refine blk_put (cs := #[.int .i64 0, .int .i64 0]) ?_ 0 _ rfl; (with_reducible repeat (first | refine blk_drewN ?_ _ | refine blk_drew ?_ | refine blk_alloc ?_ _)); exact BK225.out) Try.underlying26 rfl (by kernel_rfl)) rfl ?_
    exact ⟨by first | rfl | (simp [errW_none, errW_some] <;> rfl) | (simp [*, errW_none, errW_some] <;> rfl), by repeat (first | (with_reducible first | exact HB.out | apply below_alloc | apply pw_below_drewN | apply below_drew1 | refine below_set ?_ GE224.out | refine below_set ?_ GE225.out) | exact HB.out)⟩
  · rw [if_neg c4] at H
    have c4b0 : (t227 == 0) = false := beq_eq_false_iff_ne.mpr c4
    have c4b1 : (t227 != 0) = true := bne_iff_ne.mpr c4
    simp only [Option.some.injEq, Prod.mk.injEq] at H
    obtain ⟨rfl, rfl, rfl⟩ := H
    go_enter Try.func12, Try.ntmps12
    go_wp2_with (first | ((with_reducible refine gate_dst (N := 3) rfl ?_); refine box_event ?hg (N := 3) ?hd (cs := #[.int .u32 a1_0, .int .u32 a1_1, .int .u32 a1_2, .int .u32 a1_3]) (t := 24) ?hr ?_; (case hd => rfl); (case hg => rfl); (case hr => first | (go_simp; done) | (go_simp; rfl)); intro gb224 hg w24 hbox hb; have n0_ := Aside0.mk (below_step (by repeat (first | (with_reducible first | exact HB.out | apply below_alloc | apply pw_below_drewN | apply below_drew1) | exact HB.out)) hb); have n1_ := Aside0.mk (hbox); have n2_ := Aside0.mk ((by rw [hg]; exact (below_size (by repeat (first | (with_reducible first | exact HB.out | apply below_alloc | apply pw_below_drewN | apply below_drew1) | exact HB.out))) : w.heap.size ≤ gb224)); have n3_ := Aside0.mk ((by rw [hg]; exact (below_size (by repeat (first | (with_reducible first | exact HB.out | apply below_alloc | apply pw_below_drewN | apply below_drew1) | exact HB.out))) : w.heap.size ≤ gb224)); clear HB; have HB := n0_; have BK224 := n1_; have GW224 := n2_; have GE224 := n3_; clear n0_ n1_ n2_ n3_; clear hb hbox hg) | ((with_reducible refine gate_dst (N := 4) rfl ?_); refine box_event ?hg (N := 4) ?hd (cs := #[.int .i64 0, .int .i64 0]) (t := 26) ?hr ?_; (case hd => rfl); (case hg => rfl); (case hr => first | (go_simp; done) | (go_simp; rfl)); intro gb225 hg w25 hbox hb; have n0_ := Aside0.mk (blk_below (g := gb224) (o := .cells #[.int .u32 a1_0, .int .u32 a1_1, .int .u32 a1_2, .int .u32 a1_3] 24 (0, 0)) (by (with_reducible repeat (first | refine blk_drewN ?_ _ | refine blk_drew ?_ | refine blk_alloc ?_ _)); exact BK224.out) hb); have n1_ := Aside0.mk (below_step (by repeat (first | (with_reducible first | exact HB.out | apply below_alloc | apply pw_below_drewN | apply below_drew1 | refine below_set ?_ GE224.out) | exact HB.out)) hb); have n2_ := Aside0.mk (hbox); have n3_ := Aside0.mk ((by rw [hg]; exact (below_size (by repeat (first | (with_reducible first | exact HB.out | apply below_alloc | apply pw_below_drewN | apply below_drew1 | refine below_set ?_ GE224.out) | exact HB.out))) : w.heap.size ≤ gb225)); have n4_ := Aside0.mk ((by rw [hg]; exact (below_size (by repeat (first | (with_reducible first | exact HB.out | apply below_alloc | apply pw_below_drewN | apply below_drew1 | refine below_set ?_ GE224.out) | exact HB.out))) : w.heap.size ≤ gb225)); have n5_ := Aside0.mk ((by rw [hg]; exact Nat.ne_of_lt (blk_lt (g := gb224) (o := .cells #[.int .u32 a1_0, .int .u32 a1_1, .int .u32 a1_2, .int .u32 a1_3] 24 (0, 0)) (by (with_reducible repeat (first | refine blk_drewN ?_ _ | refine blk_drew ?_ | refine blk_alloc ?_ _)); exact BK224.out)) : gb224 ≠ gb225)); have n6_ := Aside0.mk ((by rw [hg]; exact Nat.ne_of_gt (blk_lt (g := gb224) (o := .cells #[.int .u32 a1_0, .int .u32 a1_1, .int .u32 a1_2, .int .u32 a1_3] 24 (0, 0)) (by (with_reducible repeat (first | refine blk_drewN ?_ _ | refine blk_drew ?_ | refine blk_alloc ?_ _)); exact BK224.out)) : gb225 ≠ gb224)); clear BK224; clear HB; have BK224 := n0_; have HB := n1_; have BK225 := n2_; have GW225 := n3_; have GE225 := n4_; have NB224_225 := n5_; have NB225_224 := n6_; clear n0_ n1_ n2_ n3_ n4_ n5_ n6_; clear hb hbox hg) | ((with_reducible refine gate_callee (f := 10) rfl ?_); refine goesL_ (some 12) rfl rfl Try.func10 (by kernel_rfl) rfl #[.int .i64 a0] rfl (by (try simp only [List.map_toArray, List.map_cons, List.map_nil]); first | done | rfl | (simp only [List.length_drop, List.length_take]; rfl)) ?_; (with_reducible refine (awardingbodyref41_Public.calls k a0 t226 t227 _ A3.out).mono ?_); rintro e w' ⟨rfl, ⟨nd, rfl⟩⟩; refine ⟨_, rfl, ?_⟩; (try (rw [drewN_self w25]; generalize hq_ : World.drewN w25 _ = w25; have n0_ : Aside0 (w25.heap[gb224]? = some (.cells #[.int .u32 a1_0, .int .u32 a1_1, .int .u32 a1_2, .int .u32 a1_3] 24 (0, 0))) := ⟨by rw [← hq_]; exact (by (with_reducible repeat (first | refine blk_drewN ?_ _ | refine blk_drew ?_ | refine blk_alloc ?_ _)); exact BK224.out)⟩; have n1_ : Aside0 (w25.heap[gb225]? = some (.cells #[.int .i64 0, .int .i64 0] 26 (0, 0))) := ⟨by rw [← hq_]; exact (by (with_reducible repeat (first | refine blk_drewN ?_ _ | refine blk_drew ?_ | refine blk_alloc ?_ _)); exact BK225.out)⟩; have n2_ : Aside0 (Below w.heap.size w w25) := ⟨by rw [← hq_]; exact (by repeat (first | (with_reducible first | exact HB.out | apply below_alloc | apply pw_below_drewN | apply below_drew1 | refine below_set ?_ GE224.out | refine below_set ?_ GE225.out) | exact HB.out))⟩; clear BK224 BK225 HB hq_; have BK224 := n0_; have BK225 := n1_; have HB := n2_; clear n0_ n1_ n2_)); have hnb26 := NB225_224.out; have hnc26 := NB224_225.out; have hcz27_0 : w25.cell? ⟨gb225, 0, none⟩ = some (.int .i64 0) := (blk_cell BK225.out 0).trans rfl; have hcz27_1 : w25.cell? ⟨gb225, 1, none⟩ = some (.int .i64 0) := (blk_cell BK225.out 1).trans rfl; have hfz27_0 := blk_frozen BK225.out 0; have hfz27_1 := blk_frozen BK225.out 1))
    refine bodyPost_ret (results_ct rfl _ _ gb225 26 #[.int .i64 0, .int .i64 0] (0, 0) _ rfl (by (with_reducible repeat (first | refine blk_drewN ?_ _ | refine blk_drew ?_ | refine blk_alloc ?_ _)); refine blk_put (cs := #[.int .i64 0, .int .i64 0]) ?_ 1 _ rfl; (with_reducible repeat (first | refine blk_drewN ?_ _ | refine blk_drew ?_ | refine blk_alloc ?_ _)); refine blk_put (cs := #[.int .i64 0, .int .i64 0]) ?_ 0 _ rfl; (with_reducible repeat (first | refine blk_drewN ?_ _ | refine blk_drew ?_ | refine blk_alloc ?_ _)); exact BK225.out) Try.underlying26 rfl (by kernel_rfl)) rfl ?_
    exact ⟨by first | rfl | (simp [errW_none, errW_some] <;> rfl) | (simp [*, errW_none, errW_some] <;> rfl), by repeat (first | (with_reducible first | exact HB.out | apply below_alloc | apply pw_below_drewN | apply below_drew1 | refine below_set ?_ GE224.out | refine below_set ?_ GE225.out) | exact HB.out)⟩

/-! ### signature_member: function 27 -/
def signature_member.f (k : Nat) (a0 : Int) : Option (Bool) := (signature_in.f a0 1 2147483578).bind fun t241 => (if t241 = true then ((signature_Power.f k a0 1073741789).bind fun t242 => (some (t242 == 1))) else (some false))
theorem signature_member.mono : ∀ a0 k, LeO (signature_member.f k a0) (signature_member.f (k + 1) a0) := by
  intro a0 k
  unfold signature_member.f
  repeat' first
      | (with_reducible exact signature_Power.mono _ _ _)
      | (with_reducible exact LeO.refl _)
      | (with_reducible exact LeO.none _)
      | (with_reducible refine LeO.ite ?_ ?_)
      | (with_reducible refine LeO.bind ?_ (fun _ => ?_))
      | exact signature_Power.mono _ _ _
      | exact LeO.none _
      | refine LeO.ite ?_ ?_
      | refine LeO.bind ?_ (fun _ => ?_)
set_option maxHeartbeats 8000000 in
set_option maxRecDepth 100000 in
theorem signature_member.calls (k : Nat) (a0 : Int) (r : Bool) (w : World) (h : signature_member.f k a0 = some r) :
    Calls Try.prog 27 #[.int .i64 a0] w fun e w' => e = .returned (.bool r) ∧ Drawn0 w w' := by
  have H : ((signature_in.f a0 1 2147483578).bind fun t241 => (if t241 = true then ((signature_Power.f k a0 1073741789).bind fun t242 => (some (t242 == 1))) else (some false))) = some r := h
  clear h
  replace H := Option.bind_eq_some_iff.mp H
  obtain ⟨t241, A20, H⟩ := H
  replace H : (if t241 = true then ((signature_Power.f k a0 1073741789).bind fun t242 => (some (t242 == 1))) else (some false)) = some r := H
  have A2 := Aside0.mk A20
  clear A20
  by_cases c3 : t241 = true
  · subst c3
    have H1 : ((signature_Power.f k a0 1073741789).bind fun t242 => (some (t242 == 1))) = some r := by rw [if_pos rfl] at H; exact H
    clear H
    have H := H1
    clear H1
    replace H := Option.bind_eq_some_iff.mp H
    obtain ⟨t242, A40, H⟩ := H
    replace H : (some (t242 == 1)) = some r := H
    have A4 := Aside0.mk A40
    clear A40
    obtain rfl := Option.some.inj H
    go_enter Try.func27, Try.ntmps27
    go_wp2_with (first | ((with_reducible refine gate_callee (f := 26) rfl ?_); refine goesL_ (some 4) rfl rfl Try.func26 (by kernel_rfl) rfl #[.int .i64 a0, .int .i64 1, .int .i64 2147483578] rfl (by (try simp only [List.map_toArray, List.map_cons, List.map_nil]); first | done | rfl | (simp only [List.length_drop, List.length_take]; rfl)) ?_; (with_reducible refine (signature_in.calls a0 1 2147483578 true _ A2.out).mono ?_); rintro e w' ⟨rfl, ⟨nd, rfl⟩⟩; refine ⟨_, rfl, ?_⟩) | (go_at_call 15; (with_reducible refine (signature_Power.calls k a0 1073741789 t242 _ A4.out).mono ?_); rintro e w' ⟨rfl, ⟨nd, rfl⟩⟩))
    go_ret
    exact ⟨by first | rfl | (simp; done) | (simp [*]; done), by repeat (first | exact Drawn0.refl _ | apply Drawn0.step)⟩
  · replace c3 := Bool.eq_false_iff.mpr c3
    subst c3
    have H1 : (some false) = some r := by rw [if_neg (show ¬ (false = true) by decide)] at H; exact H
    clear H
    have H := H1
    clear H1
    obtain rfl := Option.some.inj H
    go_enter Try.func27, Try.ntmps27
    go_wp2_with (first | ((with_reducible refine gate_callee (f := 26) rfl ?_); refine goesL_ (some 4) rfl rfl Try.func26 (by kernel_rfl) rfl #[.int .i64 a0, .int .i64 1, .int .i64 2147483578] rfl (by (try simp only [List.map_toArray, List.map_cons, List.map_nil]); first | done | rfl | (simp only [List.length_drop, List.length_take]; rfl)) ?_; (with_reducible refine (signature_in.calls a0 1 2147483578 false _ A2.out).mono ?_); rintro e w' ⟨rfl, ⟨nd, rfl⟩⟩; refine ⟨_, rfl, ?_⟩))
    go_ret
    exact ⟨by first | rfl | (simp; done) | (simp [*]; done), by repeat (first | exact Drawn0.refl _ | apply Drawn0.step)⟩

end Go.Proofs.Ytijmmnlhbbmhlaa.XE
