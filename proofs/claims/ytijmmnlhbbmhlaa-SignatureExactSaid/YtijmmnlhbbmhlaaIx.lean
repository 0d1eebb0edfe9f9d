/-
  Words for a variable index into a small array: 'ix<n> j x0 .. ' is the element j of x0, .., and the machine's index gives it.
  Conditions: 0 <= j < n. Written by a program of this project (wip/tools/xprint.py).
-/
import Derived.Test.YtijmmnlhbbmhlaaProg
import Derived.Test.YtijmmnlhbbmhlaaWWords
import Derived.KernelRfl
namespace Go.Proofs.Ytijmmnlhbbmhlaa.Ix
open Go.RowKit Go.Proofs.YtijmmnlhbbmhlaaW.PrintWords
def sx (i j v a : Int) : Int := if j = i then v else a
def ix2 (j a0 a1 : Int) : Int := if j = 0 then a0 else a1
theorem ixcell2 {W : World} {g T : Nat} {k : IntKind} {x a0 a1 : Int} (h : W.heap[g]? = some (.cells #[.int k a0, .int k a1] T (0, 0))) (h0 : decide (0 ≤ x) = true) (h1 : decide (x < 2) = true) : W.cell? ⟨g, x.toNat, none⟩ = some (.int k (ix2 x a0 a1)) := by
  have h0 := of_decide_eq_true h0
  have h1 := of_decide_eq_true h1
  obtain rfl | rfl : x = 0 ∨ x = 1 := by omega
  · exact (blk_cell h 0).trans rfl
  · exact (blk_cell h 1).trans rfl
theorem blk_setv2 {W : World} {g T : Nat} {k : IntKind} {x a0 a1 : Int} (h0 : decide (0 ≤ x) = true) (h1 : decide (x < 2) = true) (h : W.heap[g]? = some (.cells #[.int k a0, .int k a1] T (0, 0))) (v : Int) : (W.setCell ⟨g, x.toNat, none⟩ (.int k v)).heap[g]? = some (.cells #[.int k (sx 0 x v a0), .int k (sx 1 x v a1)] T (0, 0)) := by
  have h0 := of_decide_eq_true h0
  have h1 := of_decide_eq_true h1
  obtain rfl | rfl : x = 0 ∨ x = 1 := by omega
  · exact (blk_set h 0 (.int k v)).trans rfl
  · exact (blk_set h 1 (.int k v)).trans rfl
def ix3 (j a0 a1 a2 : Int) : Int := if j = 0 then a0 else if j = 1 then a1 else a2
theorem ixcell3 {W : World} {g T : Nat} {k : IntKind} {x a0 a1 a2 : Int} (h : W.heap[g]? = some (.cells #[.int k a0, .int k a1, .int k a2] T (0, 0))) (h0 : decide (0 ≤ x) = true) (h1 : decide (x < 3) = true) : W.cell? ⟨g, x.toNat, none⟩ = some (.int k (ix3 x a0 a1 a2)) := by
  have h0 := of_decide_eq_true h0
  have h1 := of_decide_eq_true h1
  obtain rfl | rfl | rfl : x = 0 ∨ x = 1 ∨ x = 2 := by omega
  · exact (blk_cell h 0).trans rfl
  · exact (blk_cell h 1).trans rfl
  · exact (blk_cell h 2).trans rfl
theorem blk_setv3 {W : World} {g T : Nat} {k : IntKind} {x a0 a1 a2 : Int} (h0 : decide (0 ≤ x) = true) (h1 : decide (x < 3) = true) (h : W.heap[g]? = some (.cells #[.int k a0, .int k a1, .int k a2] T (0, 0))) (v : Int) : (W.setCell ⟨g, x.toNat, none⟩ (.int k v)).heap[g]? = some (.cells #[.int k (sx 0 x v a0), .int k (sx 1 x v a1), .int k (sx 2 x v a2)] T (0, 0)) := by
  have h0 := of_decide_eq_true h0
  have h1 := of_decide_eq_true h1
  obtain rfl | rfl | rfl : x = 0 ∨ x = 1 ∨ x = 2 := by omega
  · exact (blk_set h 0 (.int k v)).trans rfl
  · exact (blk_set h 1 (.int k v)).trans rfl
  · exact (blk_set h 2 (.int k v)).trans rfl
def ix4 (j a0 a1 a2 a3 : Int) : Int := if j = 0 then a0 else if j = 1 then a1 else if j = 2 then a2 else a3
theorem ixcell4 {W : World} {g T : Nat} {k : IntKind} {x a0 a1 a2 a3 : Int} (h : W.heap[g]? = some (.cells #[.int k a0, .int k a1, .int k a2, .int k a3] T (0, 0))) (h0 : decide (0 ≤ x) = true) (h1 : decide (x < 4) = true) : W.cell? ⟨g, x.toNat, none⟩ = some (.int k (ix4 x a0 a1 a2 a3)) := by
  have h0 := of_decide_eq_true h0
  have h1 := of_decide_eq_true h1
  obtain rfl | rfl | rfl | rfl : x = 0 ∨ x = 1 ∨ x = 2 ∨ x = 3 := by omega
  · exact (blk_cell h 0).trans rfl
  · exact (blk_cell h 1).trans rfl
  · exact (blk_cell h 2).trans rfl
  · exact (blk_cell h 3).trans rfl
theorem blk_setv4 {W : World} {g T : Nat} {k : IntKind} {x a0 a1 a2 a3 : Int} (h0 : decide (0 ≤ x) = true) (h1 : decide (x < 4) = true) (h : W.heap[g]? = some (.cells #[.int k a0, .int k a1, .int k a2, .int k a3] T (0, 0))) (v : Int) : (W.setCell ⟨g, x.toNat, none⟩ (.int k v)).heap[g]? = some (.cells #[.int k (sx 0 x v a0), .int k (sx 1 x v a1), .int k (sx 2 x v a2), .int k (sx 3 x v a3)] T (0, 0)) := by
  have h0 := of_decide_eq_true h0
  have h1 := of_decide_eq_true h1
  obtain rfl | rfl | rfl | rfl : x = 0 ∨ x = 1 ∨ x = 2 ∨ x = 3 := by omega
  · exact (blk_set h 0 (.int k v)).trans rfl
  · exact (blk_set h 1 (.int k v)).trans rfl
  · exact (blk_set h 2 (.int k v)).trans rfl
  · exact (blk_set h 3 (.int k v)).trans rfl
theorem arrC2 {W : World} {g T : Nat} {k : IntKind} {a0 a1 : Int} (h : W.heap[g]? = some (.cells #[.int k a0, .int k a1] T (0, 0))) : Kd.C (Kd.int k) W (some ⟨g, 0, none⟩) 2 [a0, a1] := by
  refine Kd.C_of_reads (d := (0 : Int)) (h1 := fun _ => rfl) ⟨rfl, by decide, fun _ => ⟨_, rfl, fun j hj => ?_⟩⟩
  obtain rfl | rfl : j = 0 ∨ j = 1 := by omega
  · exact (by rw [add_plain]; exact (blk_cell h 0).trans rfl)
  · exact (by rw [add_plain]; exact (blk_cell h 1).trans rfl)
theorem arrC3 {W : World} {g T : Nat} {k : IntKind} {a0 a1 a2 : Int} (h : W.heap[g]? = some (.cells #[.int k a0, .int k a1, .int k a2] T (0, 0))) : Kd.C (Kd.int k) W (some ⟨g, 0, none⟩) 3 [a0, a1, a2] := by
  refine Kd.C_of_reads (d := (0 : Int)) (h1 := fun _ => rfl) ⟨rfl, by decide, fun _ => ⟨_, rfl, fun j hj => ?_⟩⟩
  obtain rfl | rfl | rfl : j = 0 ∨ j = 1 ∨ j = 2 := by omega
  · exact (by rw [add_plain]; exact (blk_cell h 0).trans rfl)
  · exact (by rw [add_plain]; exact (blk_cell h 1).trans rfl)
  · exact (by rw [add_plain]; exact (blk_cell h 2).trans rfl)
theorem arrC4 {W : World} {g T : Nat} {k : IntKind} {a0 a1 a2 a3 : Int} (h : W.heap[g]? = some (.cells #[.int k a0, .int k a1, .int k a2, .int k a3] T (0, 0))) : Kd.C (Kd.int k) W (some ⟨g, 0, none⟩) 4 [a0, a1, a2, a3] := by
  refine Kd.C_of_reads (d := (0 : Int)) (h1 := fun _ => rfl) ⟨rfl, by decide, fun _ => ⟨_, rfl, fun j hj => ?_⟩⟩
  obtain rfl | rfl | rfl | rfl : j = 0 ∨ j = 1 ∨ j = 2 ∨ j = 3 := by omega
  · exact (by rw [add_plain]; exact (blk_cell h 0).trans rfl)
  · exact (by rw [add_plain]; exact (blk_cell h 1).trans rfl)
  · exact (by rw [add_plain]; exact (blk_cell h 2).trans rfl)
  · exact (by rw [add_plain]; exact (blk_cell h 3).trans rfl)
theorem ixA23_0 (w : World) (x0_0 x1_0 x2_0 x3_0 : Int) : (Instr.index 23 (.agg #[.int .u32 x0_0, .int .u32 x1_0, .int .u32 x2_0, .int .u32 x3_0]) (.int .i64 0)).run Try.prog w = .ok (.int .u32 x0_0) w := by kernel_rfl
theorem ixA23_1 (w : World) (x0_0 x1_0 x2_0 x3_0 : Int) : (Instr.index 23 (.agg #[.int .u32 x0_0, .int .u32 x1_0, .int .u32 x2_0, .int .u32 x3_0]) (.int .i64 1)).run Try.prog w = .ok (.int .u32 x1_0) w := by kernel_rfl
theorem ixA23_2 (w : World) (x0_0 x1_0 x2_0 x3_0 : Int) : (Instr.index 23 (.agg #[.int .u32 x0_0, .int .u32 x1_0, .int .u32 x2_0, .int .u32 x3_0]) (.int .i64 2)).run Try.prog w = .ok (.int .u32 x2_0) w := by kernel_rfl
theorem ixA23_3 (w : World) (x0_0 x1_0 x2_0 x3_0 : Int) : (Instr.index 23 (.agg #[.int .u32 x0_0, .int .u32 x1_0, .int .u32 x2_0, .int .u32 x3_0]) (.int .i64 3)).run Try.prog w = .ok (.int .u32 x3_0) w := by kernel_rfl
theorem ixA23 (w : World) (j x0_0 x1_0 x2_0 x3_0 : Int) (h0 : decide (0 ≤ j) = true) (h1 : decide (j < 4) = true) :
    (Instr.index 23 (.agg #[.int .u32 x0_0, .int .u32 x1_0, .int .u32 x2_0, .int .u32 x3_0]) (.int .i64 j)).run Try.prog w = .ok (.int .u32 (ix4 j x0_0 x1_0 x2_0 x3_0)) w := by
  have h0 := of_decide_eq_true h0
  have h1 := of_decide_eq_true h1
  obtain rfl | rfl | rfl | rfl : j = 0 ∨ j = 1 ∨ j = 2 ∨ j = 3 := by omega
  · exact ixA23_0 ..
  · exact ixA23_1 ..
  · exact ixA23_2 ..
  · exact ixA23_3 ..
theorem ixA24_0 (w : World) (x0_0 x1_0 x2_0 x3_0 : Int) : (Instr.index 24 (.agg #[.int .u32 x0_0, .int .u32 x1_0, .int .u32 x2_0, .int .u32 x3_0]) (.int .i64 0)).run Try.prog w = .ok (.int .u32 x0_0) w := by kernel_rfl
theorem ixA24_1 (w : World) (x0_0 x1_0 x2_0 x3_0 : Int) : (Instr.index 24 (.agg #[.int .u32 x0_0, .int .u32 x1_0, .int .u32 x2_0, .int .u32 x3_0]) (.int .i64 1)).run Try.prog w = .ok (.int .u32 x1_0) w := by kernel_rfl
theorem ixA24_2 (w : World) (x0_0 x1_0 x2_0 x3_0 : Int) : (Instr.index 24 (.agg #[.int .u32 x0_0, .int .u32 x1_0, .int .u32 x2_0, .int .u32 x3_0]) (.int .i64 2)).run Try.prog w = .ok (.int .u32 x2_0) w := by kernel_rfl
theorem ixA24_3 (w : World) (x0_0 x1_0 x2_0 x3_0 : Int) : (Instr.index 24 (.agg #[.int .u32 x0_0, .int .u32 x1_0, .int .u32 x2_0, .int .u32 x3_0]) (.int .i64 3)).run Try.prog w = .ok (.int .u32 x3_0) w := by kernel_rfl
theorem ixA24 (w : World) (j x0_0 x1_0 x2_0 x3_0 : Int) (h0 : decide (0 ≤ j) = true) (h1 : decide (j < 4) = true) :
    (Instr.index 24 (.agg #[.int .u32 x0_0, .int .u32 x1_0, .int .u32 x2_0, .int .u32 x3_0]) (.int .i64 j)).run Try.prog w = .ok (.int .u32 (ix4 j x0_0 x1_0 x2_0 x3_0)) w := by
  have h0 := of_decide_eq_true h0
  have h1 := of_decide_eq_true h1
  obtain rfl | rfl | rfl | rfl : j = 0 ∨ j = 1 ∨ j = 2 ∨ j = 3 := by omega
  · exact ixA24_0 ..
  · exact ixA24_1 ..
  · exact ixA24_2 ..
  · exact ixA24_3 ..
theorem ixA34_0 (w : World) (x0_0 x1_0 : Int) : (Instr.index 34 (.agg #[.int .i64 x0_0, .int .i64 x1_0]) (.int .i64 0)).run Try.prog w = .ok (.int .i64 x0_0) w := by kernel_rfl
theorem ixA34_1 (w : World) (x0_0 x1_0 : Int) : (Instr.index 34 (.agg #[.int .i64 x0_0, .int .i64 x1_0]) (.int .i64 1)).run Try.prog w = .ok (.int .i64 x1_0) w := by kernel_rfl
theorem ixA34 (w : World) (j x0_0 x1_0 : Int) (h0 : decide (0 ≤ j) = true) (h1 : decide (j < 2) = true) :
    (Instr.index 34 (.agg #[.int .i64 x0_0, .int .i64 x1_0]) (.int .i64 j)).run Try.prog w = .ok (.int .i64 (ix2 j x0_0 x1_0)) w := by
  have h0 := of_decide_eq_true h0
  have h1 := of_decide_eq_true h1
  obtain rfl | rfl : j = 0 ∨ j = 1 := by omega
  · exact ixA34_0 ..
  · exact ixA34_1 ..
theorem ixA35_0 (w : World) (x0_0 x0_1 x1_0 x1_1 x2_0 x2_1 : Int) : (Instr.index 35 (.agg #[.int .i64 x0_0, .int .i64 x0_1, .int .i64 x1_0, .int .i64 x1_1, .int .i64 x2_0, .int .i64 x2_1]) (.int .i64 0)).run Try.prog w = .ok (.agg #[.int .i64 x0_0, .int .i64 x0_1]) w := by kernel_rfl
theorem ixA35_1 (w : World) (x0_0 x0_1 x1_0 x1_1 x2_0 x2_1 : Int) : (Instr.index 35 (.agg #[.int .i64 x0_0, .int .i64 x0_1, .int .i64 x1_0, .int .i64 x1_1, .int .i64 x2_0, .int .i64 x2_1]) (.int .i64 1)).run Try.prog w = .ok (.agg #[.int .i64 x1_0, .int .i64 x1_1]) w := by kernel_rfl
theorem ixA35_2 (w : World) (x0_0 x0_1 x1_0 x1_1 x2_0 x2_1 : Int) : (Instr.index 35 (.agg #[.int .i64 x0_0, .int .i64 x0_1, .int .i64 x1_0, .int .i64 x1_1, .int .i64 x2_0, .int .i64 x2_1]) (.int .i64 2)).run Try.prog w = .ok (.agg #[.int .i64 x2_0, .int .i64 x2_1]) w := by kernel_rfl
theorem ixA35 (w : World) (j x0_0 x0_1 x1_0 x1_1 x2_0 x2_1 : Int) (h0 : decide (0 ≤ j) = true) (h1 : decide (j < 3) = true) :
    (Instr.index 35 (.agg #[.int .i64 x0_0, .int .i64 x0_1, .int .i64 x1_0, .int .i64 x1_1, .int .i64 x2_0, .int .i64 x2_1]) (.int .i64 j)).run Try.prog w = .ok (.agg #[.int .i64 (ix3 j x0_0 x1_0 x2_0), .int .i64 (ix3 j x0_1 x1_1 x2_1)]) w := by
  have h0 := of_decide_eq_true h0
  have h1 := of_decide_eq_true h1
  obtain rfl | rfl | rfl : j = 0 ∨ j = 1 ∨ j = 2 := by omega
  · exact ixA35_0 ..
  · exact ixA35_1 ..
  · exact ixA35_2 ..
attribute [go_sem] ixA23 ixA24 ixA34 ixA35
end Go.Proofs.Ytijmmnlhbbmhlaa.Ix
