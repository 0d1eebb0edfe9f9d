/-
  Words for a variable index into a small array: 'ix<n> j x0 .. ' is the element j of x0, .., and the machine's index gives it.
  Conditions: 0 <= j < n. Written by a program of this project (wip/tools/xprint.py).
-/
import Derived.Test.YtogkjlfinjlngaaProg
import Derived.Test.YtogkjlfinjlngaaWWords
import Derived.KernelRfl
namespace Go.Proofs.Ytogkjlfinjlngaa.Ix
open Go.RowKit Go.Proofs.YtogkjlfinjlngaaW.PrintWords
def sx (i j v a : Int) : Int := if j = i then v else a
def ix9 (j a0 a1 a2 a3 a4 a5 a6 a7 a8 : Int) : Int := if j = 0 then a0 else if j = 1 then a1 else if j = 2 then a2 else if j = 3 then a3 else if j = 4 then a4 else if j = 5 then a5 else if j = 6 then a6 else if j = 7 then a7 else a8
theorem ixcell9 {W : World} {g T : Nat} {k : IntKind} {x a0 a1 a2 a3 a4 a5 a6 a7 a8 : Int} (h : W.heap[g]? = some (.cells #[.int k a0, .int k a1, .int k a2, .int k a3, .int k a4, .int k a5, .int k a6, .int k a7, .int k a8] T (0, 0))) (h0 : decide (0 ≤ x) = true) (h1 : decide (x < 9) = true) : W.cell? ⟨g, x.toNat, none⟩ = some (.int k (ix9 x a0 a1 a2 a3 a4 a5 a6 a7 a8)) := by
  have h0 := of_decide_eq_true h0
  have h1 := of_decide_eq_true h1
  obtain rfl | rfl | rfl | rfl | rfl | rfl | rfl | rfl | rfl : x = 0 ∨ x = 1 ∨ x = 2 ∨ x = 3 ∨ x = 4 ∨ x = 5 ∨ x = 6 ∨ x = 7 ∨ x = 8 := by omega
  · exact (blk_cell h 0).trans rfl
  · exact (blk_cell h 1).trans rfl
  · exact (blk_cell h 2).trans rfl
  · exact (blk_cell h 3).trans rfl
  · exact (blk_cell h 4).trans rfl
  · exact (blk_cell h 5).trans rfl
  · exact (blk_cell h 6).trans rfl
  · exact (blk_cell h 7).trans rfl
  · exact (blk_cell h 8).trans rfl
theorem blk_setv9 {W : World} {g T : Nat} {k : IntKind} {x a0 a1 a2 a3 a4 a5 a6 a7 a8 : Int} (h0 : decide (0 ≤ x) = true) (h1 : decide (x < 9) = true) (h : W.heap[g]? = some (.cells #[.int k a0, .int k a1, .int k a2, .int k a3, .int k a4, .int k a5, .int k a6, .int k a7, .int k a8] T (0, 0))) (v : Int) : (W.setCell ⟨g, x.toNat, none⟩ (.int k v)).heap[g]? = some (.cells #[.int k (sx 0 x v a0), .int k (sx 1 x v a1), .int k (sx 2 x v a2), .int k (sx 3 x v a3), .int k (sx 4 x v a4), .int k (sx 5 x v a5), .int k (sx 6 x v a6), .int k (sx 7 x v a7), .int k (sx 8 x v a8)] T (0, 0)) := by
  have h0 := of_decide_eq_true h0
  have h1 := of_decide_eq_true h1
  obtain rfl | rfl | rfl | rfl | rfl | rfl | rfl | rfl | rfl : x = 0 ∨ x = 1 ∨ x = 2 ∨ x = 3 ∨ x = 4 ∨ x = 5 ∨ x = 6 ∨ x = 7 ∨ x = 8 := by omega
  · exact (blk_set h 0 (.int k v)).trans rfl
  · exact (blk_set h 1 (.int k v)).trans rfl
  · exact (blk_set h 2 (.int k v)).trans rfl
  · exact (blk_set h 3 (.int k v)).trans rfl
  · exact (blk_set h 4 (.int k v)).trans rfl
  · exact (blk_set h 5 (.int k v)).trans rfl
  · exact (blk_set h 6 (.int k v)).trans rfl
  · exact (blk_set h 7 (.int k v)).trans rfl
  · exact (blk_set h 8 (.int k v)).trans rfl
theorem arrC9 {W : World} {g T : Nat} {k : IntKind} {a0 a1 a2 a3 a4 a5 a6 a7 a8 : Int} (h : W.heap[g]? = some (.cells #[.int k a0, .int k a1, .int k a2, .int k a3, .int k a4, .int k a5, .int k a6, .int k a7, .int k a8] T (0, 0))) : Kd.C (Kd.int k) W (some ⟨g, 0, none⟩) 9 [a0, a1, a2, a3, a4, a5, a6, a7, a8] := by
  refine Kd.C_of_reads (d := (0 : Int)) (h1 := fun _ => rfl) ⟨rfl, by decide, fun _ => ⟨_, rfl, fun j hj => ?_⟩⟩
  obtain rfl | rfl | rfl | rfl | rfl | rfl | rfl | rfl | rfl : j = 0 ∨ j = 1 ∨ j = 2 ∨ j = 3 ∨ j = 4 ∨ j = 5 ∨ j = 6 ∨ j = 7 ∨ j = 8 := by omega
  · exact (by rw [add_plain]; exact (blk_cell h 0).trans rfl)
  · exact (by rw [add_plain]; exact (blk_cell h 1).trans rfl)
  · exact (by rw [add_plain]; exact (blk_cell h 2).trans rfl)
  · exact (by rw [add_plain]; exact (blk_cell h 3).trans rfl)
  · exact (by rw [add_plain]; exact (blk_cell h 4).trans rfl)
  · exact (by rw [add_plain]; exact (blk_cell h 5).trans rfl)
  · exact (by rw [add_plain]; exact (blk_cell h 6).trans rfl)
  · exact (by rw [add_plain]; exact (blk_cell h 7).trans rfl)
  · exact (by rw [add_plain]; exact (blk_cell h 8).trans rfl)
theorem arrstr9_9 {P : Program} {w : World} {T src e dst g : Nat} {a0 a1 a2 a3 a4 a5 a6 a7 a8 : Int} (hs : P.underlying src = some (.slice e)) (he : P.underlying e = some (.int .u8)) (hd : P.underlying dst = some .string) (h : w.heap[g]? = some (.cells #[.int .u8 a0, .int .u8 a1, .int .u8 a2, .int .u8 a3, .int .u8 a4, .int .u8 a5, .int .u8 a6, .int .u8 a7, .int .u8 a8] T (0, 0))) :
    (convert src dst (.slice (some ⟨g, 0, none⟩) 9 9)).run P w = .ok (.string (strOfNums [a0, a1, a2, a3, a4, a5, a6, a7, a8])) w := by
  refine run_convert_bytes_arg w src e hs he g 0 9 9 [a0, a1, a2, a3, a4, a5, a6, a7, a8] rfl (fun i hi => ?_) dst hd
  obtain rfl | rfl | rfl | rfl | rfl | rfl | rfl | rfl | rfl : i = 0 ∨ i = 1 ∨ i = 2 ∨ i = 3 ∨ i = 4 ∨ i = 5 ∨ i = 6 ∨ i = 7 ∨ i = 8 := by omega
  · exact (blk_cell h 0).trans rfl
  · exact (blk_cell h 1).trans rfl
  · exact (blk_cell h 2).trans rfl
  · exact (blk_cell h 3).trans rfl
  · exact (blk_cell h 4).trans rfl
  · exact (blk_cell h 5).trans rfl
  · exact (blk_cell h 6).trans rfl
  · exact (blk_cell h 7).trans rfl
  · exact (blk_cell h 8).trans rfl
theorem ixA42_0 (w : World) (x0_0 x1_0 x2_0 x3_0 x4_0 x5_0 x6_0 x7_0 x8_0 : Int) : (Instr.index 42 (.agg #[.int .u8 x0_0, .int .u8 x1_0, .int .u8 x2_0, .int .u8 x3_0, .int .u8 x4_0, .int .u8 x5_0, .int .u8 x6_0, .int .u8 x7_0, .int .u8 x8_0]) (.int .i64 0)).run Try.prog w = .ok (.int .u8 x0_0) w := by kernel_rfl
theorem ixA42_1 (w : World) (x0_0 x1_0 x2_0 x3_0 x4_0 x5_0 x6_0 x7_0 x8_0 : Int) : (Instr.index 42 (.agg #[.int .u8 x0_0, .int .u8 x1_0, .int .u8 x2_0, .int .u8 x3_0, .int .u8 x4_0, .int .u8 x5_0, .int .u8 x6_0, .int .u8 x7_0, .int .u8 x8_0]) (.int .i64 1)).run Try.prog w = .ok (.int .u8 x1_0) w := by kernel_rfl
theorem ixA42_2 (w : World) (x0_0 x1_0 x2_0 x3_0 x4_0 x5_0 x6_0 x7_0 x8_0 : Int) : (Instr.index 42 (.agg #[.int .u8 x0_0, .int .u8 x1_0, .int .u8 x2_0, .int .u8 x3_0, .int .u8 x4_0, .int .u8 x5_0, .int .u8 x6_0, .int .u8 x7_0, .int .u8 x8_0]) (.int .i64 2)).run Try.prog w = .ok (.int .u8 x2_0) w := by kernel_rfl
theorem ixA42_3 (w : World) (x0_0 x1_0 x2_0 x3_0 x4_0 x5_0 x6_0 x7_0 x8_0 : Int) : (Instr.index 42 (.agg #[.int .u8 x0_0, .int .u8 x1_0, .int .u8 x2_0, .int .u8 x3_0, .int .u8 x4_0, .int .u8 x5_0, .int .u8 x6_0, .int .u8 x7_0, .int .u8 x8_0]) (.int .i64 3)).run Try.prog w = .ok (.int .u8 x3_0) w := by kernel_rfl
theorem ixA42_4 (w : World) (x0_0 x1_0 x2_0 x3_0 x4_0 x5_0 x6_0 x7_0 x8_0 : Int) : (Instr.index 42 (.agg #[.int .u8 x0_0, .int .u8 x1_0, .int .u8 x2_0, .int .u8 x3_0, .int .u8 x4_0, .int .u8 x5_0, .int .u8 x6_0, .int .u8 x7_0, .int .u8 x8_0]) (.int .i64 4)).run Try.prog w = .ok (.int .u8 x4_0) w := by kernel_rfl
theorem ixA42_5 (w : World) (x0_0 x1_0 x2_0 x3_0 x4_0 x5_0 x6_0 x7_0 x8_0 : Int) : (Instr.index 42 (.agg #[.int .u8 x0_0, .int .u8 x1_0, .int .u8 x2_0, .int .u8 x3_0, .int .u8 x4_0, .int .u8 x5_0, .int .u8 x6_0, .int .u8 x7_0, .int .u8 x8_0]) (.int .i64 5)).run Try.prog w = .ok (.int .u8 x5_0) w := by kernel_rfl
theorem ixA42_6 (w : World) (x0_0 x1_0 x2_0 x3_0 x4_0 x5_0 x6_0 x7_0 x8_0 : Int) : (Instr.index 42 (.agg #[.int .u8 x0_0, .int .u8 x1_0, .int .u8 x2_0, .int .u8 x3_0, .int .u8 x4_0, .int .u8 x5_0, .int .u8 x6_0, .int .u8 x7_0, .int .u8 x8_0]) (.int .i64 6)).run Try.prog w = .ok (.int .u8 x6_0) w := by kernel_rfl
theorem ixA42_7 (w : World) (x0_0 x1_0 x2_0 x3_0 x4_0 x5_0 x6_0 x7_0 x8_0 : Int) : (Instr.index 42 (.agg #[.int .u8 x0_0, .int .u8 x1_0, .int .u8 x2_0, .int .u8 x3_0, .int .u8 x4_0, .int .u8 x5_0, .int .u8 x6_0, .int .u8 x7_0, .int .u8 x8_0]) (.int .i64 7)).run Try.prog w = .ok (.int .u8 x7_0) w := by kernel_rfl
theorem ixA42_8 (w : World) (x0_0 x1_0 x2_0 x3_0 x4_0 x5_0 x6_0 x7_0 x8_0 : Int) : (Instr.index 42 (.agg #[.int .u8 x0_0, .int .u8 x1_0, .int .u8 x2_0, .int .u8 x3_0, .int .u8 x4_0, .int .u8 x5_0, .int .u8 x6_0, .int .u8 x7_0, .int .u8 x8_0]) (.int .i64 8)).run Try.prog w = .ok (.int .u8 x8_0) w := by kernel_rfl
theorem ixA42 (w : World) (j x0_0 x1_0 x2_0 x3_0 x4_0 x5_0 x6_0 x7_0 x8_0 : Int) (h0 : decide (0 ≤ j) = true) (h1 : decide (j < 9) = true) :
    (Instr.index 42 (.agg #[.int .u8 x0_0, .int .u8 x1_0, .int .u8 x2_0, .int .u8 x3_0, .int .u8 x4_0, .int .u8 x5_0, .int .u8 x6_0, .int .u8 x7_0, .int .u8 x8_0]) (.int .i64 j)).run Try.prog w = .ok (.int .u8 (ix9 j x0_0 x1_0 x2_0 x3_0 x4_0 x5_0 x6_0 x7_0 x8_0)) w := by
  have h0 := of_decide_eq_true h0
  have h1 := of_decide_eq_true h1
  obtain rfl | rfl | rfl | rfl | rfl | rfl | rfl | rfl | rfl : j = 0 ∨ j = 1 ∨ j = 2 ∨ j = 3 ∨ j = 4 ∨ j = 5 ∨ j = 6 ∨ j = 7 ∨ j = 8 := by omega
  · exact ixA42_0 ..
  · exact ixA42_1 ..
  · exact ixA42_2 ..
  · exact ixA42_3 ..
  · exact ixA42_4 ..
  · exact ixA42_5 ..
  · exact ixA42_6 ..
  · exact ixA42_7 ..
  · exact ixA42_8 ..
theorem ixA43_0 (w : World) (x0_0 x1_0 x2_0 x3_0 x4_0 x5_0 x6_0 x7_0 x8_0 : Int) : (Instr.index 43 (.agg #[.int .u8 x0_0, .int .u8 x1_0, .int .u8 x2_0, .int .u8 x3_0, .int .u8 x4_0, .int .u8 x5_0, .int .u8 x6_0, .int .u8 x7_0, .int .u8 x8_0]) (.int .i64 0)).run Try.prog w = .ok (.int .u8 x0_0) w := by kernel_rfl
theorem ixA43_1 (w : World) (x0_0 x1_0 x2_0 x3_0 x4_0 x5_0 x6_0 x7_0 x8_0 : Int) : (Instr.index 43 (.agg #[.int .u8 x0_0, .int .u8 x1_0, .int .u8 x2_0, .int .u8 x3_0, .int .u8 x4_0, .int .u8 x5_0, .int .u8 x6_0, .int .u8 x7_0, .int .u8 x8_0]) (.int .i64 1)).run Try.prog w = .ok (.int .u8 x1_0) w := by kernel_rfl
theorem ixA43_2 (w : World) (x0_0 x1_0 x2_0 x3_0 x4_0 x5_0 x6_0 x7_0 x8_0 : Int) : (Instr.index 43 (.agg #[.int .u8 x0_0, .int .u8 x1_0, .int .u8 x2_0, .int .u8 x3_0, .int .u8 x4_0, .int .u8 x5_0, .int .u8 x6_0, .int .u8 x7_0, .int .u8 x8_0]) (.int .i64 2)).run Try.prog w = .ok (.int .u8 x2_0) w := by kernel_rfl
theorem ixA43_3 (w : World) (x0_0 x1_0 x2_0 x3_0 x4_0 x5_0 x6_0 x7_0 x8_0 : Int) : (Instr.index 43 (.agg #[.int .u8 x0_0, .int .u8 x1_0, .int .u8 x2_0, .int .u8 x3_0, .int .u8 x4_0, .int .u8 x5_0, .int .u8 x6_0, .int .u8 x7_0, .int .u8 x8_0]) (.int .i64 3)).run Try.prog w = .ok (.int .u8 x3_0) w := by kernel_rfl
theorem ixA43_4 (w : World) (x0_0 x1_0 x2_0 x3_0 x4_0 x5_0 x6_0 x7_0 x8_0 : Int) : (Instr.index 43 (.agg #[.int .u8 x0_0, .int .u8 x1_0, .int .u8 x2_0, .int .u8 x3_0, .int .u8 x4_0, .int .u8 x5_0, .int .u8 x6_0, .int .u8 x7_0, .int .u8 x8_0]) (.int .i64 4)).run Try.prog w = .ok (.int .u8 x4_0) w := by kernel_rfl
theorem ixA43_5 (w : World) (x0_0 x1_0 x2_0 x3_0 x4_0 x5_0 x6_0 x7_0 x8_0 : Int) : (Instr.index 43 (.agg #[.int .u8 x0_0, .int .u8 x1_0, .int .u8 x2_0, .int .u8 x3_0, .int .u8 x4_0, .int .u8 x5_0, .int .u8 x6_0, .int .u8 x7_0, .int .u8 x8_0]) (.int .i64 5)).run Try.prog w = .ok (.int .u8 x5_0) w := by kernel_rfl
theorem ixA43_6 (w : World) (x0_0 x1_0 x2_0 x3_0 x4_0 x5_0 x6_0 x7_0 x8_0 : Int) : (Instr.index 43 (.agg #[.int .u8 x0_0, .int .u8 x1_0, .int .u8 x2_0, .int .u8 x3_0, .int .u8 x4_0, .int .u8 x5_0, .int .u8 x6_0, .int .u8 x7_0, .int .u8 x8_0]) (.int .i64 6)).run Try.prog w = .ok (.int .u8 x6_0) w := by kernel_rfl
theorem ixA43_7 (w : World) (x0_0 x1_0 x2_0 x3_0 x4_0 x5_0 x6_0 x7_0 x8_0 : Int) : (Instr.index 43 (.agg #[.int .u8 x0_0, .int .u8 x1_0, .int .u8 x2_0, .int .u8 x3_0, .int .u8 x4_0, .int .u8 x5_0, .int .u8 x6_0, .int .u8 x7_0, .int .u8 x8_0]) (.int .i64 7)).run Try.prog w = .ok (.int .u8 x7_0) w := by kernel_rfl
theorem ixA43_8 (w : World) (x0_0 x1_0 x2_0 x3_0 x4_0 x5_0 x6_0 x7_0 x8_0 : Int) : (Instr.index 43 (.agg #[.int .u8 x0_0, .int .u8 x1_0, .int .u8 x2_0, .int .u8 x3_0, .int .u8 x4_0, .int .u8 x5_0, .int .u8 x6_0, .int .u8 x7_0, .int .u8 x8_0]) (.int .i64 8)).run Try.prog w = .ok (.int .u8 x8_0) w := by kernel_rfl
theorem ixA43 (w : World) (j x0_0 x1_0 x2_0 x3_0 x4_0 x5_0 x6_0 x7_0 x8_0 : Int) (h0 : decide (0 ≤ j) = true) (h1 : decide (j < 9) = true) :
    (Instr.index 43 (.agg #[.int .u8 x0_0, .int .u8 x1_0, .int .u8 x2_0, .int .u8 x3_0, .int .u8 x4_0, .int .u8 x5_0, .int .u8 x6_0, .int .u8 x7_0, .int .u8 x8_0]) (.int .i64 j)).run Try.prog w = .ok (.int .u8 (ix9 j x0_0 x1_0 x2_0 x3_0 x4_0 x5_0 x6_0 x7_0 x8_0)) w := by
  have h0 := of_decide_eq_true h0
  have h1 := of_decide_eq_true h1
  obtain rfl | rfl | rfl | rfl | rfl | rfl | rfl | rfl | rfl : j = 0 ∨ j = 1 ∨ j = 2 ∨ j = 3 ∨ j = 4 ∨ j = 5 ∨ j = 6 ∨ j = 7 ∨ j = 8 := by omega
  · exact ixA43_0 ..
  · exact ixA43_1 ..
  · exact ixA43_2 ..
  · exact ixA43_3 ..
  · exact ixA43_4 ..
  · exact ixA43_5 ..
  · exact ixA43_6 ..
  · exact ixA43_7 ..
  · exact ixA43_8 ..
attribute [go_sem] ixA42 ixA43
end Go.Proofs.Ytogkjlfinjlngaa.Ix
