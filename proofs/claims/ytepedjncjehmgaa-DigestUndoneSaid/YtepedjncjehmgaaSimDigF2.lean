/- The law DigestUndone in the small machine. No conditions. -/
import Derived.Test.YtepedjncjehmgaaSimDigF1
namespace Go.Proofs.Ytepedjncjehmgaa.Sim
set_option linter.unusedSimpArgs false
set_option linter.unusedVariables false
open Go
set_option maxRecDepth 100000
set_option linter.unusedSimpArgs false

theorem onF_deep {E : Env} {C : CallF} {g : Nat} {q : Fun} (hE : E g = some q) (hd : q.isDeep = true) (d os fr vars hp args caps) :
    onF E C d os fr vars hp args (.fn g caps) = onV E C d os ⟨fr, vars, hp⟩ (deepE E C g (args ++ caps) hp) := by
  simp only [onF, hE, hd, if_true]

def ror (x : Int) (n : Nat) : Int := ibit .or .u32 (ishr .u32 x n) (ishl .u32 x (32 - n))

theorem d_ror {E : Env} (h10 : E 10 = some (.code c10)) (x : Int) (n : Nat) (hn : n < 32) (hp : Hp) : deepE E (Call E) 10 [.int .u32 x, .int .u64 n] hp = some (.int .u32 (ror x n)) := by
  rw [deep_code h10 rfl, deep_go]
  simp only [mapO_nil, mapO_cons, consO_some, snapA_int, goD_some]
  rw [Call_mk E h10 _ _ rfl]
  have h2 : IntKind.u64.wrap (32 - (n : Int)) = ((32 - n : Nat) : Int) := by
    have : ∀ m < 32, IntKind.u64.wrap (32 - ((m : Nat) : Int)) = ((32 - m : Nat) : Int) := by decide
    exact this n hn
  have h3 : ¬ ((n : Int) < 0) := by omega
  have h4 : ¬ (((32 - n : Nat) : Int) < 0) := by omega
  simp only [Run_seq, Run_skip, Run_ret, Run_exit, Run_block, run_cond, run_region, run_loop, condR_true, condR_false, regR_some, regT_some, trim_nil, trim_rows, trim_map, thenR_norm, thenR_ret, thenR_exit, thenR_none, blockR_norm, blockR_ret, blockR_exit, finR_norm, finR_ret, outR_some, result_one, resV_t, resV_cell, ops_nil, ops_cons, ops_guard, onV_some, onR_some, onC_some, onG_bool, onG_skip, onB_var, onB_new, op_move, op_pick, op_bin, op_eqv, op_un, op_conv, op_alloc_var, op_alloc, op_box, op_build, op_lit, op_load, op_store, op_nilchk, op_mkfn, op_mksl, op_slice, op_aslice, op_faddr, op_field, op_iaddr, op_aaddr, op_index, op_indexS, op_extract, op_len, op_lenc, op_append, op_mm, put_some, put_none, getF_hit, getF_cons, ev_t, ev_c, evs_nil, evs_cons, evp_nil, evp_cons, evq_nil, evq_cons, evo_none, evo_some, keep_mk, keepF_nil, keepF_cons, keep1_int, keep1_bool, keep1_str, keep1_list, keep1_own, keep1_ptr, keep1_agg, keep1_tup, keep1_fn, keep1_any, keep1_skip, keep1_nilp, keep1_nilf, keep1_rptr, keep1_loc, keepV_nil, keepV_cons, keepVc_some, keepVc_none, getV_nil, getV_cons, setV_nil, setV_cons, forgetF_nil, forgetF_cons, forget1_int, forget1_bool, forget1_str, forget1_list, forget1_own, forget1_ptr, forget1_agg, forget1_tup, forget1_fn, forget1_any, forget1_skip, forget1_nilp, forget1_nilf, forget1_rptr, forget1_loc, wrs_nil, wrs_cons, wr_v, wr_h, argsF_nil, argsF_cons, Nat.reduceEqDiff, Nat.reduceAdd, Nat.reduceMul, Nat.reduceLT, Nat.reduceLeDiff, ↓reduceIte, List.contains_cons, List.contains_nil, Nat.reduceBEq, Bool.or_true, Bool.true_or, Bool.or_false, Bool.false_or, reduceCtorEq, List.length_cons, List.length_nil, binS_add, binS_sub, binS_mul, binS_quo, binS_rem, binS_and, binS_or, binS_xor, binS_shl, binS_shr, binS_lss, binS_leq, binS_gtr, binS_geq, binS_eql, binS_neq, convS_int, unS_not, pickS_true, pickS_false, outable_int, outable_bool, outable_str, outable_list, outable_agg, outable_own, backR_some, goD_some, mapO_nil, mapO_cons, consO_some, snapA_int, snapA_bool, snapA_str, snapA_list, snapA_agg, aggO_some, tupO_some, snapR_int, snapR_bool, snapR_str, snapR_agg, snapR_tup, snapR_list, rowBy_int, rowBy_bool, rowBy_str, rowBy_list, rowBy_own, rowBy_agg, snapC_int, snapC_bool, snapC_str, snapC_list, snapC_own, snapA_own, snapR_own, loadV_loc, loadL_row, mk_one, mk_agg, mk_single, cells_agg, cells_int, cells_bool, cells_str, cells_list, cells_own, cells_fn, cells_ptr, cells_nilp, okv_int, okv_bool, okv_str, okv_list, okv_own, okv_fn, okv_ptr, okv_nilp, loadV_rptr, loadV_ptr, loadP_at, mkO_some, cellsAt_eq, rowCells_some, storeAt_eq, setRow_some, storeO_some, storeP_at, storeR_loc, storeL_row, storeR_ptr,  reshape_agg, reshape_int, reshape_bool, reshape_str, reshape_list, reshape_own, boxS_eq, chunks_zero, chunks_one, row1_one, row1_two, buildS_nil, buildS_cons, faddrS_loc, faddrS_ptr, faddrS_rptr, nilS_loc, nilS_ptr, nilS_rptr, fieldS_agg, aaddrS_loc, aaddrS_rptr, indexV_agg, lenS_str, lenS_list, lenS_own, extractS_tup, and_self, true_and, and_true, List.all_cons, List.all_nil, Bool.and_true, Bool.and_self, Nat.le_refl, List.take_succ_cons, List.take_zero, List.take_nil, List.drop_succ_cons, List.drop_zero, Nat.zero_add, Nat.add_zero, Nat.mul_one, Int.toNat_zero, Int.reduceToNat, Int.reduceLT, Int.reduceEq, Int.reduceLE, List.getElem?_cons_zero, List.getElem?_cons_succ, splice_end, splice_hit, splice_next, List.set_cons_zero, List.set_cons_succ, Int.cast_ofNat_Int, Int.le_refl, gt_iff_lt, ge_iff_le, iaddrS_list, elemAt_some, iaddrS_own, elemP_row, strAt_str, byteAt_some, Int.toNat_natCast, Int.natCast_nonneg, litS_eq, litO_some, fillL_nil, fillL_cons, lit1_int, lit1_bool, lit1_str, lit1_list, replicate_z, replicate_s, Nat.lt_add_one, Nat.zero_lt_succ, h2, h3, h4, Int.toNat_natCast, ror]

/-! Words as bit vectors. -/
def wv (v : BitVec 32) : Int := (v.toNat : Int)
theorem wv_of {x : Int} (h : okW x = true) : x = wv (BitVec.ofNat 32 x.toNat) := by
  simp only [okW, decide_eq_true_eq] at h
  simp only [wv, BitVec.toNat_ofNat]
  omega
theorem wv_ok (v : BitVec 32) : okW (wv v) = true := by
  have := v.isLt
  exact decide_eq_true (p := 0 ≤ (v.toNat : Int) ∧ (v.toNat : Int) < 4294967296) ⟨by omega, by omega⟩
theorem ofInt_wv (v : BitVec 32) : BitVec.ofInt IntKind.u32.bits (wv v) = v := by
  show BitVec.ofInt 32 (wv v) = v
  simp [wv]
theorem wrap_wv (v : BitVec 32) : IntKind.u32.wrap (v.toNat : Int) = wv v := by
  have := v.isLt
  exact wrap_u32 (n := (v.toNat : Int)) (by omega) (by omega)
theorem ibit_or_wv (v w : BitVec 32) : ibit .or .u32 (wv v) (wv w) = wv (v ||| w) := by
  simp only [ibit, ofInt_wv]; exact wrap_wv (v ||| w)
theorem ibit_xor_wv (v w : BitVec 32) : ibit .xor .u32 (wv v) (wv w) = wv (v ^^^ w) := by
  simp only [ibit, ofInt_wv]; exact wrap_wv (v ^^^ w)
theorem wrap_mod (x : Int) : IntKind.u32.wrap x = x % 4294967296 := by
  have := IntKind.wrap_u32
  simp [IntKind.wrap, IntKind.bits, IntKind.signed]
theorem ishl_wv (v : BitVec 32) (n : Nat) (hn : n ≤ 32) : ishl .u32 (wv v) n = wv (v <<< n) := by
  simp only [ishl]
  rw [show min n IntKind.u32.bits = n from Nat.min_eq_left hn, wrap_mod]
  simp only [wv, BitVec.toNat_shiftLeft, Nat.shiftLeft_eq]
  rw [show ((v.toNat : Int) * 2 ^ n) = ((v.toNat * 2 ^ n : Nat) : Int) by rw [Int.natCast_mul, Int.natCast_pow]; rfl]
  generalize v.toNat * 2 ^ n = z
  show (z : Int) % 4294967296 = ((z % 4294967296 : Nat) : Int)
  omega
theorem ishr_wv (v : BitVec 32) (n : Nat) (hn : n ≤ 32) : ishr .u32 (wv v) n = wv (v >>> n) := by
  simp only [ishr]
  rw [show min n IntKind.u32.bits = n from Nat.min_eq_left hn]
  simp only [wv, BitVec.toNat_ushiftRight, Nat.shiftRight_eq_div_pow]
  rw [Int.fdiv_eq_ediv_of_nonneg _ (by exact Int.pow_nonneg (by decide))]
  push_cast
  rfl
theorem add_wv (v w : BitVec 32) : w32 (wv v + wv w) = wv (v + w) := by
  simp only [w32, wrap_mod, wv, BitVec.toNat_add]
  show ((v.toNat : Int) + w.toNat) % 4294967296 = (((v.toNat + w.toNat) % 4294967296 : Nat) : Int)
  omega
theorem sub_wv (v w : BitVec 32) : w32 (wv v - wv w) = wv (v - w) := by
  have h1 := v.isLt; have h2 := w.isLt
  simp only [w32, wrap_mod, wv, BitVec.toNat_sub]
  omega
theorem rol_wv (v : BitVec 32) (n : Nat) (hn : n ≤ 32) : rol (wv v) n = wv (v <<< n ||| v >>> (32 - n)) := by
  rw [rol, ishl_wv v n hn, ishr_wv v (32 - n) (by omega), ibit_or_wv]
theorem ror_wv (v : BitVec 32) (n : Nat) (hn : n ≤ 32) : ror (wv v) n = wv (v >>> n ||| v <<< (32 - n)) := by
  rw [ror, ishl_wv v (32 - n) (by omega), ishr_wv v n hn, ibit_or_wv]
theorem rot_bv (v : BitVec 32) (n : Nat) (h0 : 0 < n) (hn : n < 32) : (v <<< n ||| v >>> (32 - n)) >>> n ||| (v <<< n ||| v >>> (32 - n)) <<< (32 - n) = v := by
  apply BitVec.eq_of_getLsbD_eq
  intro i hi
  simp only [BitVec.getLsbD_or, BitVec.getLsbD_ushiftRight, BitVec.getLsbD_shiftLeft]
  by_cases h : i < 32 - n
  · have h1 : n + i < 32 := by omega
    have h2 : v.getLsbD (32 - n + (n + i)) = false := BitVec.getLsbD_of_ge _ _ (by omega)
    simp [h, h1, h2]
  · have h1 : ¬ n + i < 32 := by omega
    have h2 : v.getLsbD (32 - n + (n + i)) = false := BitVec.getLsbD_of_ge _ _ (by omega)
    have h3 : i - (32 - n) < n := by omega
    have h4 : 32 - n + (i - (32 - n)) = i := by omega
    simp [h, h1, h2, h3, h4, hi]
theorem ror_rol {x : Int} (hx : okW x = true) (n : Nat) (h0 : 0 < n) (hn : n < 32) : ror (rol x n) n = x := by
  rw [wv_of hx, rol_wv _ n (by omega), ror_wv _ n (by omega), rot_bv _ n h0 hn]
theorem xor_back {x y : Int} (hx : okW x = true) (hy : okW y = true) : x32 (x32 x y) y = x := by
  rw [wv_of hx, wv_of hy, x32, x32, ibit_xor_wv, ibit_xor_wv, BitVec.xor_assoc, BitVec.xor_self, BitVec.xor_zero]
theorem sub_back {x y : Int} (hx : okW x = true) (hy : okW y = true) : w32 (w32 (x + y) - y) = x := by
  rw [wv_of hx, wv_of hy, add_wv, sub_wv, BitVec.add_sub_cancel]
theorem ok_add {x y : Int} (hx : okW x = true) (hy : okW y = true) : okW (w32 (x + y)) = true := by
  rw [wv_of hx, wv_of hy, add_wv]; exact wv_ok _
theorem ok_xor {x y : Int} (hx : okW x = true) (hy : okW y = true) : okW (x32 x y) = true := by
  rw [wv_of hx, wv_of hy, x32, ibit_xor_wv]; exact wv_ok _
theorem ok_rol {x : Int} (hx : okW x = true) (n : Nat) (hn : n ≤ 32) : okW (rol x n) = true := by
  rw [wv_of hx, rol_wv _ n hn]; exact wv_ok _

def Q.ok (q : Q) : Prop := okW q.a = true ∧ okW q.b = true ∧ okW q.c = true ∧ okW q.d = true

/-- One round back. -/
def unr (q : Q) : Q :=
  let c := ror q.c 16
  let b := ror (x32 q.b c) 7
  let c := w32 (c - b)
  let d := ror (x32 q.d q.a) 13
  let a := w32 (q.a - d)
  let d := ror (x32 d c) 8
  let c := w32 (c - d)
  let a := ror a 16
  let b := ror (x32 b a) 5
  let a := w32 (a - b)
  ⟨a, b, c, d⟩

theorem rnd_ok {q : Q} (h : q.ok) : (rnd q).ok := by
  obtain ⟨ha, hb, hc, hd⟩ := h
  have a1 := ok_add ha hb
  have b1 := ok_xor (ok_rol hb 5 (by decide)) a1
  have a2 := ok_rol a1 16 (by decide)
  have c1 := ok_add hc hd
  have d1 := ok_xor (ok_rol hd 8 (by decide)) c1
  have a3 := ok_add a2 d1
  have d2 := ok_xor (ok_rol d1 13 (by decide)) a3
  have c2 := ok_add c1 b1
  have b2 := ok_xor (ok_rol b1 7 (by decide)) c2
  exact ⟨a3, b2, ok_rol c2 16 (by decide), d2⟩

theorem unr_rnd {q : Q} (h : q.ok) : unr (rnd q) = q := by
  obtain ⟨ha, hb, hc, hd⟩ := h
  have a1 := ok_add ha hb
  have b1 := ok_xor (ok_rol hb 5 (by decide)) a1
  have a2 := ok_rol a1 16 (by decide)
  have c1 := ok_add hc hd
  have d1 := ok_xor (ok_rol hd 8 (by decide)) c1
  have a3 := ok_add a2 d1
  have d2 := ok_xor (ok_rol d1 13 (by decide)) a3
  have c2 := ok_add c1 b1
  simp only [unr, rnd]
  simp only [ror_rol c2 16 (by decide) (by decide), xor_back (ok_rol b1 7 (by decide)) c2, ror_rol b1 7 (by decide) (by decide), sub_back c1 b1, xor_back (ok_rol d1 13 (by decide)) a3, ror_rol d1 13 (by decide) (by decide), sub_back a2 d1,
    xor_back (ok_rol hd 8 (by decide)) c1, ror_rol hd 8 (by decide) (by decide), sub_back hc hd, ror_rol a1 16 (by decide) (by decide), xor_back (ok_rol hb 5 (by decide)) a1, ror_rol hb 5 (by decide) (by decide), sub_back ha hb]

def unrs : Nat → Q → Q
  | 0, q => q
  | n + 1, q => unrs n (unr q)

theorem rnds_end : ∀ (n : Nat) (q : Q), rnds (n + 1) q = rnd (rnds n q)
  | 0, q => rfl
  | n + 1, q => by rw [rnds, rnds_end n (rnd q)]; rfl
theorem rnds_ok : ∀ (n : Nat) {q : Q}, q.ok → (rnds n q).ok
  | 0, _, h => h
  | n + 1, _, h => rnds_ok n (rnd_ok h)
theorem unrs_rnds : ∀ (n : Nat) {q : Q}, q.ok → unrs n (rnds n q) = q
  | 0, _, _ => rfl
  | n + 1, q, h => by
    rw [rnds_end, unrs, unr_rnd (rnds_ok n h)]
    exact unrs_rnds n h

theorem loop3 {E : Env} (h10 : E 10 = some (.code c10)) (vars : Vars) (b1 b3 : Blk) (hv : vars = [(1, b1), (3, b3)]) : ∀ (n : Nat) (i : Int) (q : Q), 0 ≤ i → i + n = 12 →
    blockR 0 [1, 4, 5, 6, 7] (loopR E [1, 4, 5, 6, 7, 8, 9] l3_0 ⟨[(1, .loc 1 0), (4, .int .u32 q.a), (5, .int .u32 q.b), (6, .int .u32 q.c), (7, .int .u32 q.d), (8, .fn 10 []), (9, .int .i64 i)], [(1, b1)], []⟩) =
      some (.norm, ⟨[(1, .loc 1 0), (4, .int .u32 (unrs n q).a), (5, .int .u32 (unrs n q).b), (6, .int .u32 (unrs n q).c), (7, .int .u32 (unrs n q).d)], [(1, b1)], []⟩)
  | 0, i, q, hi, h => by
    have h1 : ¬ i < 12 := by omega
    rw [loopR, l3_0]
    simp only [Run_seq, Run_skip, Run_ret, Run_exit, Run_block, run_cond, run_region, run_loop, condR_true, condR_false, regR_some, regT_some, trim_nil, trim_rows, trim_map, thenR_norm, thenR_ret, thenR_exit, thenR_none, blockR_norm, blockR_ret, blockR_exit, finR_norm, finR_ret, outR_some, result_one, resV_t, resV_cell, ops_nil, ops_cons, ops_guard, onV_some, onR_some, onC_some, onG_bool, onG_skip, onB_var, onB_new, op_move, op_pick, op_bin, op_eqv, op_un, op_conv, op_alloc_var, op_alloc, op_box, op_build, op_lit, op_load, op_store, op_nilchk, op_mkfn, op_mksl, op_slice, op_aslice, op_faddr, op_field, op_iaddr, op_aaddr, op_index, op_indexS, op_extract, op_len, op_lenc, op_append, op_mm, put_some, put_none, getF_hit, getF_cons, ev_t, ev_c, evs_nil, evs_cons, evp_nil, evp_cons, evq_nil, evq_cons, evo_none, evo_some, keep_mk, keepF_nil, keepF_cons, keep1_int, keep1_bool, keep1_str, keep1_list, keep1_own, keep1_ptr, keep1_agg, keep1_tup, keep1_fn, keep1_any, keep1_skip, keep1_nilp, keep1_nilf, keep1_rptr, keep1_loc, keepV_nil, keepV_cons, keepVc_some, keepVc_none, getV_nil, getV_cons, setV_nil, setV_cons, forgetF_nil, forgetF_cons, forget1_int, forget1_bool, forget1_str, forget1_list, forget1_own, forget1_ptr, forget1_agg, forget1_tup, forget1_fn, forget1_any, forget1_skip, forget1_nilp, forget1_nilf, forget1_rptr, forget1_loc, wrs_nil, wrs_cons, wr_v, wr_h, argsF_nil, argsF_cons, Nat.reduceEqDiff, Nat.reduceAdd, Nat.reduceMul, Nat.reduceLT, Nat.reduceLeDiff, ↓reduceIte, List.contains_cons, List.contains_nil, Nat.reduceBEq, Bool.or_true, Bool.true_or, Bool.or_false, Bool.false_or, reduceCtorEq, List.length_cons, List.length_nil, binS_add, binS_sub, binS_mul, binS_quo, binS_rem, binS_and, binS_or, binS_xor, binS_shl, binS_shr, binS_lss, binS_leq, binS_gtr, binS_geq, binS_eql, binS_neq, convS_int, unS_not, pickS_true, pickS_false, outable_int, outable_bool, outable_str, outable_list, outable_agg, outable_own, backR_some, goD_some, mapO_nil, mapO_cons, consO_some, snapA_int, snapA_bool, snapA_str, snapA_list, snapA_agg, aggO_some, tupO_some, snapR_int, snapR_bool, snapR_str, snapR_agg, snapR_tup, snapR_list, rowBy_int, rowBy_bool, rowBy_str, rowBy_list, rowBy_own, rowBy_agg, snapC_int, snapC_bool, snapC_str, snapC_list, snapC_own, snapA_own, snapR_own, loadV_loc, loadL_row, mk_one, mk_agg, mk_single, cells_agg, cells_int, cells_bool, cells_str, cells_list, cells_own, cells_fn, cells_ptr, cells_nilp, okv_int, okv_bool, okv_str, okv_list, okv_own, okv_fn, okv_ptr, okv_nilp, loadV_rptr, loadV_ptr, loadP_at, mkO_some, cellsAt_eq, rowCells_some, storeAt_eq, setRow_some, storeO_some, storeP_at, storeR_loc, storeL_row, storeR_ptr,  reshape_agg, reshape_int, reshape_bool, reshape_str, reshape_list, reshape_own, boxS_eq, chunks_zero, chunks_one, row1_one, row1_two, buildS_nil, buildS_cons, faddrS_loc, faddrS_ptr, faddrS_rptr, nilS_loc, nilS_ptr, nilS_rptr, fieldS_agg, aaddrS_loc, aaddrS_rptr, indexV_agg, lenS_str, lenS_list, lenS_own, extractS_tup, and_self, true_and, and_true, List.all_cons, List.all_nil, Bool.and_true, Bool.and_self, Nat.le_refl, List.take_succ_cons, List.take_zero, List.take_nil, List.drop_succ_cons, List.drop_zero, Nat.zero_add, Nat.add_zero, Nat.mul_one, Int.toNat_zero, Int.reduceToNat, Int.reduceLT, Int.reduceEq, Int.reduceLE, List.getElem?_cons_zero, List.getElem?_cons_succ, splice_end, splice_hit, splice_next, List.set_cons_zero, List.set_cons_succ, Int.cast_ofNat_Int, Int.le_refl, gt_iff_lt, ge_iff_le, iaddrS_list, elemAt_some, iaddrS_own, elemP_row, strAt_str, byteAt_some, Int.toNat_natCast, Int.natCast_nonneg, litS_eq, litO_some, fillL_nil, fillL_cons, lit1_int, lit1_bool, lit1_str, lit1_list, replicate_z, replicate_s, Nat.lt_add_one, Nat.zero_lt_succ, h1, decide_false, unrs]
  | n + 1, i, q, hi, h => by
    have ih := loop3 h10 vars b1 b3 hv n (i + 1) (unr q) (by omega) (by omega)
    have h1 : i < 12 := by omega
    have h2 : IntKind.i64.wrap (i + 1) = i + 1 := wrap_i64 (by omega) (by omega)
    have r16 := fun x hp => d_ror h10 x 16 (by decide) hp
    have r7 := fun x hp => d_ror h10 x 7 (by decide) hp
    have r13 := fun x hp => d_ror h10 x 13 (by decide) hp
    have r8 := fun x hp => d_ror h10 x 8 (by decide) hp
    have r5 := fun x hp => d_ror h10 x 5 (by decide) hp
    simp only [Int.cast_ofNat_Int] at r16 r7 r13 r8 r5
    rw [loopR]
    conv => lhs; arg 3; arg 1; rw [l3_0]
    simp only [Run_seq, Run_skip, Run_ret, Run_exit, Run_block, run_cond, run_region, run_loop, condR_true, condR_false, regR_some, regT_some, trim_nil, trim_rows, trim_map, thenR_norm, thenR_ret, thenR_exit, thenR_none, blockR_norm, blockR_ret, blockR_exit, finR_norm, finR_ret, outR_some, result_one, resV_t, resV_cell, ops_nil, ops_cons, ops_guard, onV_some, onR_some, onC_some, onG_bool, onG_skip, onB_var, onB_new, op_move, op_pick, op_bin, op_eqv, op_un, op_conv, op_alloc_var, op_alloc, op_box, op_build, op_lit, op_load, op_store, op_nilchk, op_mkfn, op_mksl, op_slice, op_aslice, op_faddr, op_field, op_iaddr, op_aaddr, op_index, op_indexS, op_extract, op_len, op_lenc, op_append, op_mm, put_some, put_none, getF_hit, getF_cons, ev_t, ev_c, evs_nil, evs_cons, evp_nil, evp_cons, evq_nil, evq_cons, evo_none, evo_some, keep_mk, keepF_nil, keepF_cons, keep1_int, keep1_bool, keep1_str, keep1_list, keep1_own, keep1_ptr, keep1_agg, keep1_tup, keep1_fn, keep1_any, keep1_skip, keep1_nilp, keep1_nilf, keep1_rptr, keep1_loc, keepV_nil, keepV_cons, keepVc_some, keepVc_none, getV_nil, getV_cons, setV_nil, setV_cons, forgetF_nil, forgetF_cons, forget1_int, forget1_bool, forget1_str, forget1_list, forget1_own, forget1_ptr, forget1_agg, forget1_tup, forget1_fn, forget1_any, forget1_skip, forget1_nilp, forget1_nilf, forget1_rptr, forget1_loc, wrs_nil, wrs_cons, wr_v, wr_h, argsF_nil, argsF_cons, Nat.reduceEqDiff, Nat.reduceAdd, Nat.reduceMul, Nat.reduceLT, Nat.reduceLeDiff, ↓reduceIte, List.contains_cons, List.contains_nil, Nat.reduceBEq, Bool.or_true, Bool.true_or, Bool.or_false, Bool.false_or, reduceCtorEq, List.length_cons, List.length_nil, binS_add, binS_sub, binS_mul, binS_quo, binS_rem, binS_and, binS_or, binS_xor, binS_shl, binS_shr, binS_lss, binS_leq, binS_gtr, binS_geq, binS_eql, binS_neq, convS_int, unS_not, pickS_true, pickS_false, outable_int, outable_bool, outable_str, outable_list, outable_agg, outable_own, backR_some, goD_some, mapO_nil, mapO_cons, consO_some, snapA_int, snapA_bool, snapA_str, snapA_list, snapA_agg, aggO_some, tupO_some, snapR_int, snapR_bool, snapR_str, snapR_agg, snapR_tup, snapR_list, rowBy_int, rowBy_bool, rowBy_str, rowBy_list, rowBy_own, rowBy_agg, snapC_int, snapC_bool, snapC_str, snapC_list, snapC_own, snapA_own, snapR_own, loadV_loc, loadL_row, mk_one, mk_agg, mk_single, cells_agg, cells_int, cells_bool, cells_str, cells_list, cells_own, cells_fn, cells_ptr, cells_nilp, okv_int, okv_bool, okv_str, okv_list, okv_own, okv_fn, okv_ptr, okv_nilp, loadV_rptr, loadV_ptr, loadP_at, mkO_some, cellsAt_eq, rowCells_some, storeAt_eq, setRow_some, storeO_some, storeP_at, storeR_loc, storeL_row, storeR_ptr,  reshape_agg, reshape_int, reshape_bool, reshape_str, reshape_list, reshape_own, boxS_eq, chunks_zero, chunks_one, row1_one, row1_two, buildS_nil, buildS_cons, faddrS_loc, faddrS_ptr, faddrS_rptr, nilS_loc, nilS_ptr, nilS_rptr, fieldS_agg, aaddrS_loc, aaddrS_rptr, indexV_agg, lenS_str, lenS_list, lenS_own, extractS_tup, and_self, true_and, and_true, List.all_cons, List.all_nil, Bool.and_true, Bool.and_self, Nat.le_refl, List.take_succ_cons, List.take_zero, List.take_nil, List.drop_succ_cons, List.drop_zero, Nat.zero_add, Nat.add_zero, Nat.mul_one, Int.toNat_zero, Int.reduceToNat, Int.reduceLT, Int.reduceEq, Int.reduceLE, List.getElem?_cons_zero, List.getElem?_cons_succ, splice_end, splice_hit, splice_next, List.set_cons_zero, List.set_cons_succ, Int.cast_ofNat_Int, Int.le_refl, gt_iff_lt, ge_iff_le, iaddrS_list, elemAt_some, iaddrS_own, elemP_row, strAt_str, byteAt_some, Int.toNat_natCast, Int.natCast_nonneg, litS_eq, litO_some, fillL_nil, fillL_cons, lit1_int, lit1_bool, lit1_str, lit1_list, replicate_z, replicate_s, Nat.lt_add_one, Nat.zero_lt_succ, h1, decide_true, op_callv, onF_deep h10 rfl, List.append_nil, r16, r7, r13, r8, r5, h2]
    exact ih

theorem c_undone {E : Env} (h25 : E 25 = some (.code c25)) (h9 : E 9 = some (.code c9)) (h10 : E 10 = some (.code c10)) (h3 : E 3 = some (.code c3)) {g8 : Fun} (h8 : E 8 = some g8) (h8d : g8.isDeep = true)
    (hsane : ∀ hp, deepE E (Call E) 8 [] hp = some (.bool true)) (q : Q) (hq : q.ok) : ∃ hp, Call E 3 [q.s] [] = some (.bool true, hp) := by
  rw [Call_mk E h3 _ _ rfl]
  have hl := loop3 h10 [(1, .rows false 4 [q.s]), (3, .rows false 4 [(perm q).s])] (.rows false 4 [q.s]) (.rows false 4 [(perm q).s]) rfl 12 0 (perm q) (by decide) (by decide)
  rw [show unrs 12 (perm q) = q from unrs_rnds 12 hq] at hl
  refine ⟨[], ?_⟩
  simp only [Q.s] at hl ⊢
  simp only [Run_seq, Run_skip, Run_ret, Run_exit, Run_block, run_cond, run_region, run_loop, condR_true, condR_false, regR_some, regT_some, trim_nil, trim_rows, trim_map, thenR_norm, thenR_ret, thenR_exit, thenR_none, blockR_norm, blockR_ret, blockR_exit, finR_norm, finR_ret, outR_some, result_one, resV_t, resV_cell, ops_nil, ops_cons, ops_guard, onV_some, onR_some, onC_some, onG_bool, onG_skip, onB_var, onB_new, op_move, op_pick, op_bin, op_eqv, op_un, op_conv, op_alloc_var, op_alloc, op_box, op_build, op_lit, op_load, op_store, op_nilchk, op_mkfn, op_mksl, op_slice, op_aslice, op_faddr, op_field, op_iaddr, op_aaddr, op_index, op_indexS, op_extract, op_len, op_lenc, op_append, op_mm, put_some, put_none, getF_hit, getF_cons, ev_t, ev_c, evs_nil, evs_cons, evp_nil, evp_cons, evq_nil, evq_cons, evo_none, evo_some, keep_mk, keepF_nil, keepF_cons, keep1_int, keep1_bool, keep1_str, keep1_list, keep1_own, keep1_ptr, keep1_agg, keep1_tup, keep1_fn, keep1_any, keep1_skip, keep1_nilp, keep1_nilf, keep1_rptr, keep1_loc, keepV_nil, keepV_cons, keepVc_some, keepVc_none, getV_nil, getV_cons, setV_nil, setV_cons, forgetF_nil, forgetF_cons, forget1_int, forget1_bool, forget1_str, forget1_list, forget1_own, forget1_ptr, forget1_agg, forget1_tup, forget1_fn, forget1_any, forget1_skip, forget1_nilp, forget1_nilf, forget1_rptr, forget1_loc, wrs_nil, wrs_cons, wr_v, wr_h, argsF_nil, argsF_cons, Nat.reduceEqDiff, Nat.reduceAdd, Nat.reduceMul, Nat.reduceLT, Nat.reduceLeDiff, ↓reduceIte, List.contains_cons, List.contains_nil, Nat.reduceBEq, Bool.or_true, Bool.true_or, Bool.or_false, Bool.false_or, reduceCtorEq, List.length_cons, List.length_nil, binS_add, binS_sub, binS_mul, binS_quo, binS_rem, binS_and, binS_or, binS_xor, binS_shl, binS_shr, binS_lss, binS_leq, binS_gtr, binS_geq, binS_eql, binS_neq, convS_int, unS_not, pickS_true, pickS_false, outable_int, outable_bool, outable_str, outable_list, outable_agg, outable_own, backR_some, goD_some, mapO_nil, mapO_cons, consO_some, snapA_int, snapA_bool, snapA_str, snapA_list, snapA_agg, aggO_some, tupO_some, snapR_int, snapR_bool, snapR_str, snapR_agg, snapR_tup, snapR_list, rowBy_int, rowBy_bool, rowBy_str, rowBy_list, rowBy_own, rowBy_agg, snapC_int, snapC_bool, snapC_str, snapC_list, snapC_own, snapA_own, snapR_own, loadV_loc, loadL_row, mk_one, mk_agg, mk_single, cells_agg, cells_int, cells_bool, cells_str, cells_list, cells_own, cells_fn, cells_ptr, cells_nilp, okv_int, okv_bool, okv_str, okv_list, okv_own, okv_fn, okv_ptr, okv_nilp, loadV_rptr, loadV_ptr, loadP_at, mkO_some, cellsAt_eq, rowCells_some, storeAt_eq, setRow_some, storeO_some, storeP_at, storeR_loc, storeL_row, storeR_ptr,  reshape_agg, reshape_int, reshape_bool, reshape_str, reshape_list, reshape_own, boxS_eq, chunks_zero, chunks_one, row1_one, row1_two, buildS_nil, buildS_cons, faddrS_loc, faddrS_ptr, faddrS_rptr, nilS_loc, nilS_ptr, nilS_rptr, fieldS_agg, aaddrS_loc, aaddrS_rptr, indexV_agg, lenS_str, lenS_list, lenS_own, extractS_tup, and_self, true_and, and_true, List.all_cons, List.all_nil, Bool.and_true, Bool.and_self, Nat.le_refl, List.take_succ_cons, List.take_zero, List.take_nil, List.drop_succ_cons, List.drop_zero, Nat.zero_add, Nat.add_zero, Nat.mul_one, Int.toNat_zero, Int.reduceToNat, Int.reduceLT, Int.reduceEq, Int.reduceLE, List.getElem?_cons_zero, List.getElem?_cons_succ, splice_end, splice_hit, splice_next, List.set_cons_zero, List.set_cons_succ, Int.cast_ofNat_Int, Int.le_refl, gt_iff_lt, ge_iff_le, iaddrS_list, elemAt_some, iaddrS_own, elemP_row, strAt_str, byteAt_some, Int.toNat_natCast, Int.natCast_nonneg, litS_eq, litO_some, fillL_nil, fillL_cons, lit1_int, lit1_bool, lit1_str, lit1_list, replicate_z, replicate_s, Nat.lt_add_one, Nat.zero_lt_succ, op_call_deep _ _ h9 rfl, op_call_deep _ _ h8 h8d, d_perm9 h25 h9, hsane, Q.s, rd3_0, d3_0, eqvS_four]
  rw [hl]
  simp only [Run_seq, Run_skip, Run_ret, Run_exit, Run_block, run_cond, run_region, run_loop, condR_true, condR_false, regR_some, regT_some, trim_nil, trim_rows, trim_map, thenR_norm, thenR_ret, thenR_exit, thenR_none, blockR_norm, blockR_ret, blockR_exit, finR_norm, finR_ret, outR_some, result_one, resV_t, resV_cell, ops_nil, ops_cons, ops_guard, onV_some, onR_some, onC_some, onG_bool, onG_skip, onB_var, onB_new, op_move, op_pick, op_bin, op_eqv, op_un, op_conv, op_alloc_var, op_alloc, op_box, op_build, op_lit, op_load, op_store, op_nilchk, op_mkfn, op_mksl, op_slice, op_aslice, op_faddr, op_field, op_iaddr, op_aaddr, op_index, op_indexS, op_extract, op_len, op_lenc, op_append, op_mm, put_some, put_none, getF_hit, getF_cons, ev_t, ev_c, evs_nil, evs_cons, evp_nil, evp_cons, evq_nil, evq_cons, evo_none, evo_some, keep_mk, keepF_nil, keepF_cons, keep1_int, keep1_bool, keep1_str, keep1_list, keep1_own, keep1_ptr, keep1_agg, keep1_tup, keep1_fn, keep1_any, keep1_skip, keep1_nilp, keep1_nilf, keep1_rptr, keep1_loc, keepV_nil, keepV_cons, keepVc_some, keepVc_none, getV_nil, getV_cons, setV_nil, setV_cons, forgetF_nil, forgetF_cons, forget1_int, forget1_bool, forget1_str, forget1_list, forget1_own, forget1_ptr, forget1_agg, forget1_tup, forget1_fn, forget1_any, forget1_skip, forget1_nilp, forget1_nilf, forget1_rptr, forget1_loc, wrs_nil, wrs_cons, wr_v, wr_h, argsF_nil, argsF_cons, Nat.reduceEqDiff, Nat.reduceAdd, Nat.reduceMul, Nat.reduceLT, Nat.reduceLeDiff, ↓reduceIte, List.contains_cons, List.contains_nil, Nat.reduceBEq, Bool.or_true, Bool.true_or, Bool.or_false, Bool.false_or, reduceCtorEq, List.length_cons, List.length_nil, binS_add, binS_sub, binS_mul, binS_quo, binS_rem, binS_and, binS_or, binS_xor, binS_shl, binS_shr, binS_lss, binS_leq, binS_gtr, binS_geq, binS_eql, binS_neq, convS_int, unS_not, pickS_true, pickS_false, outable_int, outable_bool, outable_str, outable_list, outable_agg, outable_own, backR_some, goD_some, mapO_nil, mapO_cons, consO_some, snapA_int, snapA_bool, snapA_str, snapA_list, snapA_agg, aggO_some, tupO_some, snapR_int, snapR_bool, snapR_str, snapR_agg, snapR_tup, snapR_list, rowBy_int, rowBy_bool, rowBy_str, rowBy_list, rowBy_own, rowBy_agg, snapC_int, snapC_bool, snapC_str, snapC_list, snapC_own, snapA_own, snapR_own, loadV_loc, loadL_row, mk_one, mk_agg, mk_single, cells_agg, cells_int, cells_bool, cells_str, cells_list, cells_own, cells_fn, cells_ptr, cells_nilp, okv_int, okv_bool, okv_str, okv_list, okv_own, okv_fn, okv_ptr, okv_nilp, loadV_rptr, loadV_ptr, loadP_at, mkO_some, cellsAt_eq, rowCells_some, storeAt_eq, setRow_some, storeO_some, storeP_at, storeR_loc, storeL_row, storeR_ptr,  reshape_agg, reshape_int, reshape_bool, reshape_str, reshape_list, reshape_own, boxS_eq, chunks_zero, chunks_one, row1_one, row1_two, buildS_nil, buildS_cons, faddrS_loc, faddrS_ptr, faddrS_rptr, nilS_loc, nilS_ptr, nilS_rptr, fieldS_agg, aaddrS_loc, aaddrS_rptr, indexV_agg, lenS_str, lenS_list, lenS_own, extractS_tup, and_self, true_and, and_true, List.all_cons, List.all_nil, Bool.and_true, Bool.and_self, Nat.le_refl, List.take_succ_cons, List.take_zero, List.take_nil, List.drop_succ_cons, List.drop_zero, Nat.zero_add, Nat.add_zero, Nat.mul_one, Int.toNat_zero, Int.reduceToNat, Int.reduceLT, Int.reduceEq, Int.reduceLE, List.getElem?_cons_zero, List.getElem?_cons_succ, splice_end, splice_hit, splice_next, List.set_cons_zero, List.set_cons_succ, Int.cast_ofNat_Int, Int.le_refl, gt_iff_lt, ge_iff_le, iaddrS_list, elemAt_some, iaddrS_own, elemP_row, strAt_str, byteAt_some, Int.toNat_natCast, Int.natCast_nonneg, litS_eq, litO_some, fillL_nil, fillL_cons, lit1_int, lit1_bool, lit1_str, lit1_list, replicate_z, replicate_s, Nat.lt_add_one, Nat.zero_lt_succ, op_call_deep _ _ h9 rfl, op_call_deep _ _ h8 h8d, d_perm9 h25 h9, hsane, Q.s, eqvS_four]
end Go.Proofs.Ytepedjncjehmgaa.Sim
