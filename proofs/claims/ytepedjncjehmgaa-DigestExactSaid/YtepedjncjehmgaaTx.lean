/-
  What digest.Text answers: the thirty-two hexadecimal digits.
  Conditions: those in each lemma's statement.
-/
import Derived.Test.YtepedjncjehmgaaBu
import Derived.Test.YtepedjncjehmgaaShelf
namespace Go.Proofs.Ytepedjncjehmgaa.Bu
set_option linter.unusedVariables false
set_option linter.unusedSimpArgs false
open Go.RowKit Go.Proofs.YtepedjncjehmgaaW.PrintWords Go.Proofs.YtepedjncjehmgaaW.PrintLast Go.Proofs.YtepedjncjehmgaaW.PrintMore
abbrev HX : ByteArray := ⟨#[48, 49, 50, 51, 52, 53, 54, 55, 56, 57, 97, 98, 99, 100, 101, 102]⟩
/-- a digit of a word -/
def nib (x s : Int) : Int := Go.bits .and .u32 (x / 2 ^ min s.toNat 32) 15
def dg (x s : Int) : UInt8 := UInt8.ofNat (bt HX (nib x s)).toNat
def hexr (x : Int) : Nat → List UInt8
  | 0 => []
  | m + 1 => dg x (4 * (m : Int)) :: hexr x m
def hexs (a0 a1 a2 a3 : Int) : List UInt8 := hexr a0 8 ++ (hexr a1 8 ++ (hexr a2 8 ++ hexr a3 8))
def rs (a0 a1 a2 a3 : Int) : Nat → List UInt8
  | 0 => hexr a0 8 ++ (hexr a1 8 ++ (hexr a2 8 ++ hexr a3 8))
  | 1 => hexr a1 8 ++ (hexr a2 8 ++ hexr a3 8)
  | 2 => hexr a2 8 ++ hexr a3 8
  | 3 => hexr a3 8
  | _ => []
theorem hexr_length (x : Int) (m : Nat) : (hexr x m).length = m := by
  induction m with
  | zero => rfl
  | succ m ih => simp [hexr, ih]
theorem nib_range (x s : Int) : 0 ≤ nib x s ∧ nib x s < 16 := by
  unfold nib Go.bits
  simp only [IntKind.wrap_u32, BitVec.toNat_and]
  have h := Nat.and_le_right (n := (BitVec.ofInt IntKind.u32.bits (x / 2 ^ min s.toNat 32)).toNat) (m := (BitVec.ofInt IntKind.u32.bits 15).toNat)
  have h15 : (BitVec.ofInt IntKind.u32.bits 15).toNat = 15 := by decide
  omega
theorem dg_nat (x s : Int) : ((dg x s).toNat : Int) = bt HX (nib x s) := by
  have := bt_range HX (nib x s)
  unfold dg
  simp [UInt8.toNat_ofNat]
  omega
def ix (j a0 a1 a2 a3 : Int) : Int := if j = 0 then a0 else if j = 1 then a1 else if j = 2 then a2 else a3
theorem ix_0 (w : World) (x0 x1 x2 x3 : Int) : (Instr.index 24 (.agg #[.int .u32 x0, .int .u32 x1, .int .u32 x2, .int .u32 x3]) (.int .i64 0)).run Try.prog w = .ok (.int .u32 x0) w := by kernel_rfl
theorem ix_1 (w : World) (x0 x1 x2 x3 : Int) : (Instr.index 24 (.agg #[.int .u32 x0, .int .u32 x1, .int .u32 x2, .int .u32 x3]) (.int .i64 1)).run Try.prog w = .ok (.int .u32 x1) w := by kernel_rfl
theorem ix_2 (w : World) (x0 x1 x2 x3 : Int) : (Instr.index 24 (.agg #[.int .u32 x0, .int .u32 x1, .int .u32 x2, .int .u32 x3]) (.int .i64 2)).run Try.prog w = .ok (.int .u32 x2) w := by kernel_rfl
theorem ix_3 (w : World) (x0 x1 x2 x3 : Int) : (Instr.index 24 (.agg #[.int .u32 x0, .int .u32 x1, .int .u32 x2, .int .u32 x3]) (.int .i64 3)).run Try.prog w = .ok (.int .u32 x3) w := by kernel_rfl
theorem ix_at (w : World) (x0 x1 x2 x3 j : Int) (h0 : 0 ≤ j) (h4 : j < 4) : (Instr.index 24 (.agg #[.int .u32 x0, .int .u32 x1, .int .u32 x2, .int .u32 x3]) (.int .i64 j)).run Try.prog w = .ok (.int .u32 (ix j x0 x1 x2 x3)) w := by
  obtain rfl | rfl | rfl | rfl : j = 0 ∨ j = 1 ∨ j = 2 ∨ j = 3 := by omega
  · exact ix_0 ..
  · exact ix_1 ..
  · exact ix_2 ..
  · exact ix_3 ..
theorem rs_step (a0 a1 a2 a3 : Int) (i : Nat) (h : i < 4) : rs a0 a1 a2 a3 i = hexr (ix (i : Int) a0 a1 a2 a3) 8 ++ rs a0 a1 a2 a3 (i + 1) := by
  obtain rfl | rfl | rfl | rfl : i = 0 ∨ i = 1 ∨ i = 2 ∨ i = 3 := by omega
  · rfl
  · rfl
  · rfl
  · show hexr a3 8 = hexr a3 8 ++ []
    rw [List.append_nil]
theorem w64 {x : Int} (h0 : -9223372036854775808 ≤ x) (h1 : x ≤ 9223372036854775807) : wrap64 x = x := by unfold wrap64; omega
theorem fresh (w : World) (o : Obj) : Lib.IsBuilder 46 5 w.heap.size (w.heap.size + 1) [] ((w.alloc o).alloc (.cells #[.pointer none, .slice none 0 0] 46)) := by
  refine Or.inl ⟨by omega, .slice none 0 0, ?_, World.ownsRow_nil _ _ _ _, by simp [Value.ownBlock]⟩
  have := heap_alloc_new (w.alloc o) (.cells #[.pointer none, .slice none 0 0] 46)
  simpa using this
set_option maxHeartbeats 1000000 in
set_option maxRecDepth 100000 in
theorem text_calls (a0 a1 a2 a3 : Int) (w : World) :
    Calls Try.prog 7 #[.agg #[.int .u32 a0, .int .u32 a1, .int .u32 a2, .int .u32 a3]] w fun e w' => e = .returned (.string ⟨(hexs a0 a1 a2 a3).toArray⟩) ∧ Below w.heap.size w w' := by
  have hu24 := Try.underlying24
  have hu46 := Try.underlying46
  go_enter Try.func7, Try.ntmps7
  go_wp2
  go_loopw [8] (fun v8 wr => ∃ (i : Nat) (j : Int) (acc : List UInt8), v8 = .int .i64 j ∧ j = (i : Int) ∧ i ≤ 4 ∧ Lib.IsBuilder 46 5 w.heap.size (w.heap.size + 1) (Lib.byteCells acc) wr ∧ Below w.heap.size w wr ∧ acc ++ rs a0 a1 a2 a3 i = hexs a0 a1 a2 a3 ∧ acc.length = 8 * i) (fun v8 wr => match v8 with | .int _ i => (4 - i).toNat | _ => 0)
  case atStart => exact ⟨0, 0, [], rfl, rfl, by omega, fresh w _, ((Below.refl _ w).alloc (Nat.le_refl _) _).alloc (by simp) _, rfl, rfl⟩
  case round =>
    obtain ⟨i, j, acc, rfl, hj, h4, hI, hbw, hacc, hal⟩ := hrel
    have hbs := hbw.size
    by_cases hi : i < 4
    · have c1 : (j < 4) = True := eq_true (by omega)
      obtain ⟨x, hx⟩ : ∃ x, x = ix j a0 a1 a2 a3 := ⟨_, rfl⟩
      have hix : ∀ w, (Instr.index 24 (.agg #[.int .u32 a0, .int .u32 a1, .int .u32 a2, .int .u32 a3]) (.int .i64 j)).run Try.prog w = .ok (.int .u32 x) w := fun w => by rw [hx]; exact ix_at w _ _ _ _ j (by omega) (by omega)
      rw [rs_step a0 a1 a2 a3 i hi, ← hj, ← hx] at hacc
      have HJ := Aside0.mk hj
      clear hx hj
      go_wp2
      go_loopw [6] (fun v6 wr => ∃ (m : Nat) (s : Int) (acc : List UInt8), v6 = .int .i64 s ∧ s = 4 * (m : Int) - 4 ∧ m ≤ 8 ∧ Lib.IsBuilder 46 5 w.heap.size (w.heap.size + 1) (Lib.byteCells acc) wr ∧ Below w.heap.size w wr ∧ acc ++ (hexr x m ++ rs a0 a1 a2 a3 (i + 1)) = hexs a0 a1 a2 a3 ∧ acc.length = 8 * i + (8 - m)) (fun v6 wr => match v6 with | .int _ s => (s + 4).toNat | _ => 0)
      case atStart => exact ⟨8, 28, acc, rfl, rfl, by omega, hI, hbw, hacc, by omega⟩
      case round =>
        clear hI hacc hal hbs hbw acc
        obtain ⟨m, s, acc, rfl, hs, h8, hI, hbw, hacc, hal⟩ := hrel
        have hbs := hbw.size
        by_cases hm : m = 0
        · subst hm
          have c2 : (s ≥ 0) = False := eq_false (by omega)
          have c3 : (0 ≤ s) = False := eq_false (by omega)
          clear hs
          go_wp2
          have hj := HJ.out
          refine ⟨⟨i + 1, wrap64 (j + 1), acc, rfl, by rw [w64 (by omega) (by omega)]; omega, by omega, hI, hbw, by simpa [hexr] using hacc, by omega⟩, ?_⟩
          simp only [w64 (x := j + 1) (by omega) (by omega)]
          omega
        · obtain ⟨m, rfl⟩ : ∃ q, m = q + 1 := ⟨m - 1, by omega⟩
          have HS := Aside0.mk hs
          have c2 : (s ≥ 0) = True := eq_true (by omega)
          have c3 : (0 ≤ s) = True := eq_true (by omega)
          have c4 : (s < 0) = False := eq_false (by omega)
          clear hs
          have hn := nib_range x s
          unfold nib at hn
          have p1 : (0 ≤ Go.bits .and .u32 (x / 2 ^ min s.toNat 32) 15) = True := eq_true hn.1
          have p2 : (Go.bits .and .u32 (x / 2 ^ min s.toNat 32) 15 < 16) = True := eq_true hn.2
          have hb := bt_at (⟨#[48, 49, 50, 51, 52, 53, 54, 55, 56, 57, 97, 98, 99, 100, 101, 102]⟩ : ByteArray) (Go.bits .and .u32 (x / 2 ^ min s.toNat 32) 15)
          go_wp2_with (go_at_call 23; refine (writeByte w.heap.size (w.heap.size + 1) _ (bt HX (nib x s)) _ hI (by rw [Lib.byteCells_length]; omega) (by omega)).mono ?_)
          rintro e W1 ⟨rfl, h1, b1⟩
          go_wp2
          have hs := HS.out
          refine ⟨⟨m, wrap64 (s - 4), acc ++ [dg x s], rfl, by rw [w64 (by omega) (by omega)]; omega, by omega, ?_, hbw.trans b1, ?_, by simp; omega⟩, ?_⟩
          · rw [Lib.byteCells_append]
            have e : Lib.byteCells [dg x s] = [.int .u8 (bt HX (nib x s))] := by rw [← dg_nat]; rfl
            rw [e]; exact Or.inr h1
          · rw [← hacc, List.append_assoc]
            show acc ++ (dg x s :: (hexr x m ++ _)) = acc ++ (dg x (4 * (m : Int)) :: (hexr x m ++ _))
            rw [show s = 4 * (m : Int) by omega]
          · simp only [w64 (x := s - 4) (by omega) (by omega)]
            omega
    · have hi4 : i = 4 := by omega
      subst hi4
      have c1 : (j < 4) = False := eq_false (by omega)
      clear hj
      go_wp2_with (go_at_call 24; refine (Try.Builder_String_any w.heap.size (w.heap.size + 1) acc _ hI (by omega)).mono ?_)
      rintro e W1 ⟨rfl, b1⟩
      go_wp2
      go_ret
      simp only [rs, List.append_nil] at hacc
      subst hacc
      exact ⟨rfl, hbw.trans b1⟩
end Go.Proofs.Ytepedjncjehmgaa.Bu
