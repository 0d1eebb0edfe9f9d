/- Chapter 39's permutation in the small machine. Chapter 39's words in the small machine. Chapter 39's numbers in the small machine. Chapter 39's texts as words in the small machine. Texts as words of four bytes: what digest.Bytes makes, and what the law's own loops make. The law DigestForms in the small machine. Chapter 39's Parse, both, in the small machine. The law DigestBack in the small machine. The law DigestUndone in the small machine. The reference of chapter 39 in the small machine: permutation, words, numbers, texts. The reference of chapter 39 in the small machine: numbers, texts, pairs, digits. The law DigestExact in the small machine. No conditions. -/
import Derived.Test.YtepedjncjehmgaaSimC39
import Derived.Test.YtepedjncjehmgaaSimB2
open Go.Proofs.Ytepedjncjehmgaa.Sim renaming Run_seq → Aa, Run_skip → Ab, Run_ret → Ac, Run_exit → Ad, Run_block → Ae, run_cond → Af, run_region → Ag, run_loop → Ah, condR_true → Ai, condR_false → Aj, regR_some → Ak, regT_some → Al, trim_nil → Am, trim_rows → Ao, trim_map → Ap, thenR_norm → Aq, thenR_ret → Ar, thenR_exit → Au, thenR_none → Av, blockR_norm → Aw, blockR_ret → Ay, blockR_exit → Az, finR_norm → Ba, finR_ret → Bb, outR_some → Bc, result_one → Bd, resV_t → Be, resV_cell → Bf, ops_nil → Bg, ops_cons → Bh, ops_guard → Bi, onV_some → Bj, onR_some → Bk, onC_some → Bl, onG_bool → Bm, onG_skip → Bn, onB_var → Bo, onB_new → Bp, op_move → Bq, op_pick → Br, op_bin → Bs, op_eqv → Bt, op_un → Bv, op_conv → Bw, op_alloc_var → Bx, op_alloc → Bz, op_box → Ca, op_build → Cb, op_lit → Cc, op_load → Cd, op_store → Ce, op_nilchk → Cf, op_mkfn → Cg, op_mksl → Ch, op_slice → Ci, op_aslice → Cj, op_faddr → Ck, op_field → Cl, op_iaddr → Cm, op_aaddr → Cn, op_index → Co, op_indexS → Cp, op_extract → Cq, op_len → Cr, op_lenc → Cs, op_append → Ct, op_mm → Cu, op_b2s → Cv, op_s2b → Cw, b2sV_list → Cy, s2bS_str → Cz, bytesS_one → Da, put_some → Db, put_none → Dc, getF_hit → De, getF_cons → Df, ev_t → Dg, ev_c → Dh, evs_nil → Di, evs_cons → Dj, evp_nil → Dk, evp_cons → Dl, evq_nil → Dm, evq_cons → Dn, evo_none → Dp, evo_some → Dq, keep_mk → Dr, keepF_nil → Dt, keepF_cons → Du, keep1_int → Dv, keep1_bool → Dw, keep1_str → Dx, keep1_list → Dy, keep1_own → Dz, keep1_ptr → Ea, keep1_agg → Eb, keep1_tup → Ec, keep1_fn → Ed, keep1_any → Ee, keep1_skip → Ef, keep1_nilp → Eg, keep1_nilf → Eh, keep1_rptr → Ei, keep1_loc → Ej, keepV_nil → Ek, keepV_cons → El, keepVc_some → Em, keepVc_none → Eo, getV_nil → Ep, getV_cons → Er, setV_nil → Es, setV_cons → Et, forgetF_nil → Eu, forgetF_cons → Ev, forget1_int → Ew, forget1_bool → Ey, forget1_str → Ez, forget1_list → Fa, forget1_own → Fb, forget1_ptr → Fc, forget1_agg → Fe, forget1_tup → Ff, forget1_fn → Fg, forget1_any → Fh, forget1_skip → Fj, forget1_nilp → Fl, forget1_nilf → Fm, forget1_rptr → Fp, forget1_loc → Fq, wrs_nil → Fs, wrs_cons → Ft, wr_v → Fu, wr_h → Fv, argsF_nil → Fw, argsF_cons → Fx, binS_add → Fy, binS_sub → Fz, binS_mul → Ga, binS_quo → Gb, binS_rem → Gc, binS_and → Gd, binS_or → Ge, binS_xor → Gf, binS_shl → Gg, binS_shr → Gh, binS_lss → Gi, binS_leq → Gj, binS_gtr → Gk, binS_geq → Gl, binS_eql → Gm, binS_neq → Gn, convS_int → Gp, unS_not → Gq, pickS_true → Gr, pickS_false → Gs, outable_int → Gt, outable_bool → Gu, outable_str → Gv, outable_list → Gw, outable_agg → Gx, outable_own → Gy, backR_some → Gz, goD_some → Ha, mapO_nil → Hb, mapO_cons → Hc, consO_some → Hd, snapA_int → He, snapA_bool → Hf, snapA_str → Hg, snapA_list → Hh, snapA_agg → Hj, aggO_some → Hk, tupO_some → Hl, snapR_int → Hm, snapR_bool → Hn, snapR_str → Ho, snapR_agg → Hq, snapR_tup → Hr, snapR_list → Hs, rowBy_int → Ht, rowBy_bool → Hu, rowBy_str → Hv, rowBy_list → Hw, rowBy_own → Hy, rowBy_agg → Hz, snapC_int → Ia, snapC_bool → Ib, snapC_str → Ic, snapC_list → Ie, snapC_own → Ig, snapA_own → Ih, snapR_own → Ii, loadV_loc → Ij, loadL_row → Ik, mk_one → Il, mk_agg → Im, mk_single → Io, cells_agg → Ip, cells_int → Iq, cells_bool → Ir, cells_str → Iu, cells_list → Iv, cells_own → Iw, cells_fn → Iy, cells_ptr → Iz, cells_nilp → Ja, okv_int → Jb, okv_bool → Jc, okv_str → Jd, okv_list → Je, okv_own → Jf, okv_fn → Jg, okv_ptr → Jh, okv_nilp → Ji, loadV_rptr → Jj, loadV_ptr → Jk, loadP_at → Jl, mkO_some → Jm, cellsAt_eq → Jn, rowCells_some → Jo, storeAt_eq → Jp, setRow_some → Jq, storeO_some → Jr, storeP_at → Js, storeR_loc → Jt, storeL_row → Ju, storeR_ptr → Jv, reshape_agg → Jw, reshape_int → Jy, reshape_bool → Jz, reshape_str → Ka, reshape_list → Kb, reshape_own → Kc, boxS_eq → Ke, chunks_zero → Kf, chunks_one → Kg, row1_one → Kh, row1_two → Ki, buildS_nil → Kj, buildS_cons → Kk, faddrS_loc → Kl, faddrS_ptr → Km, faddrS_rptr → Kn, nilS_loc → Ko, nilS_ptr → Kq, nilS_rptr → Kr, fieldS_agg → Ks, aaddrS_loc → Kt, aaddrS_rptr → Ku, indexV_agg → Kv, lenS_str → Kw, lenS_list → Kx, lenS_own → Ky, extractS_tup → Kz, splice_end → La, splice_hit → Lb, splice_next → Lc, iaddrS_list → Ld, elemAt_some → Le, iaddrS_own → Lf, elemP_row → Lg, strAt_str → Lh, byteAt_some → Li, litS_eq → Lj, litO_some → Ll, fillL_nil → Lm, fillL_cons → Ln, lit1_int → Lp, lit1_bool → Lr, lit1_str → Ls, lit1_list → Lt, replicate_z → Lu, replicate_s → Lv
open List renaming contains_cons → Lw, contains_nil → Lx, length_cons → Md, length_nil → Me, all_cons → Mf, all_nil → Mg, take_succ_cons → Mk, take_zero → Ml, take_nil → Mm, drop_succ_cons → Mn, drop_zero → Mo, set_cons_zero → Mt, set_cons_succ → Mu
open Nat renaming le_refl → Mj, zero_add → Mp, add_zero → Mq, mul_one → Mr, lt_add_one → Mz, zero_lt_succ → Na
open Int renaming toNat_zero → Ms, cast_ofNat_Int → Mv, le_refl → Mw, toNat_natCast → Mx, natCast_nonneg → My
open Bool renaming or_true → Ly, true_or → Ma, or_false → Mb, false_or → Mc, and_true → Mh, and_self → Mi
namespace Go.Proofs.Ytepedjncjehmgaa.Sim
set_option linter.unusedSimpArgs false
set_option linter.unusedVariables false
open Go
set_option maxRecDepth 100000
set_option linter.unusedSimpArgs false

def rol (x : Int) (n : Nat) : Int := ibit .or .u32 (ishl .u32 x n) (ishr .u32 x (32 - n))

theorem d_rot {E : Env} (h25 : E 25 = some (.code c25)) (x : Int) (n : Nat) (hn : n < 32) (hp : Hp) : deepE E (Call E) 25 [.int .u32 x, .int .i64 n] hp = some (.int .u32 (rol x n)) := by
  rw [deep_code h25 rfl, deep_go]
  simp only [mapO_nil, mapO_cons, consO_some, snapA_int, goD_some]
  rw [Call_mk E h25 _ _ rfl]
  have h1 : ibit .and .u64 (IntKind.u64.wrap n) 31 = n := by
    have : ∀ m < 32, ibit .and .u64 (IntKind.u64.wrap (m : Nat)) 31 = (m : Nat) := by decide
    exact this n hn
  have h2 : IntKind.u64.wrap (32 - (n : Int)) = ((32 - n : Nat) : Int) := by
    have : ∀ m < 32, IntKind.u64.wrap (32 - ((m : Nat) : Int)) = ((32 - m : Nat) : Int) := by decide
    exact this n hn
  have h3 : ¬ ((n : Int) < 0) := by omega
  have h4 : ¬ (((32 - n : Nat) : Int) < 0) := by omega
  simp only [Aa, Ab, Ac, Ad, Ae, Af, Ag, Ah, Ai, Aj, Ak, Al, Am, Ao, Ap, Aq, Ar, Au, Av, Aw, Ay, Az, Ba, Bb, Bc, Bd, Be, Bf, Bg, Bh, Bi, Bj, Bk, Bl, Bm, Bn, Bo, Bp, Bq, Br, Bs, Bt, Bv, Bw, Bx, Bz, Ca, Cb, Cc, Cd, Ce, Cf, Cg, Ch, Ci, Cj, Ck, Cl, Cm, Cn, Co, Cp, Cq, Cr, Cs, Ct, Cu, Cv, Cw, Cy, Cz, Da, Option.map_some, Db, Dc, De, Df, Dg, Dh, Di, Dj, Dk, Dl, Dm, Dn, Dp, Dq, Dr, Dt, Du, Dv, Dw, Dx, Dy, Dz, Ea, Eb, Ec, Ed, Ee, Ef, Eg, Eh, Ei, Ej, Ek, El, Em, Eo, Ep, Er, Es, Et, Eu, Ev, Ew, Ey, Ez, Fa, Fb, Fc, Fe, Ff, Fg, Fh, Fj, Fl, Fm, Fp, Fq, Fs, Ft, Fu, Fv, Fw, Fx, Nat.reduceEqDiff, Nat.reduceAdd, Nat.reduceMul, Nat.reduceLT, Nat.reduceLeDiff, ↓reduceIte, Lw, Lx, Nat.reduceBEq, Ly, Ma, Mb, Mc, reduceCtorEq, Md, Me, Fy, Fz, Ga, Gb, Gc, Gd, Ge, Gf, Gg, Gh, Gi, Gj, Gk, Gl, Gm, Gn, Gp, Gq, Gr, Gs, Gt, Gu, Gv, Gw, Gx, Gy, Gz, Ha, Hb, Hc, Hd, He, Hf, Hg, Hh, Hj, Hk, Hl, Hm, Hn, Ho, Hq, Hr, Hs, Ht, Hu, Hv, Hw, Hy, Hz, Ia, Ib, Ic, Ie, Ig, Ih, Ii, Ij, Ik, Il, Im, Io, Ip, Iq, Ir, Iu, Iv, Iw, Iy, Iz, Ja, Jb, Jc, Jd, Je, Jf, Jg, Jh, Ji, Jj, Jk, Jl, Jm, Jn, Jo, Jp, Jq, Jr, Js, Jt, Ju, Jv, Jw, Jy, Jz, Ka, Kb, Kc, Ke, Kf, Kg, Kh, Ki, Kj, Kk, Kl, Km, Kn, Ko, Kq, Kr, Ks, Kt, Ku, Kv, Kw, Kx, Ky, Kz, and_self, true_and, and_true, Mf, Mg, Mh, Mi, Mj, Mk, Ml, Mm, Mn, Mo, Mp, Mq, Mr, Ms, Int.reduceToNat, Int.reduceLT, Int.reduceEq, Int.reduceLE, List.getElem?_cons_zero, List.getElem?_cons_succ, La, Lb, Lc, Mt, Mu, Mv, Mw, gt_iff_lt, ge_iff_le, Ld, Le, Lf, Lg, Lh, Li, Mx, My, Lj, Ll, Lm, Ln, Lp, Lr, Ls, Lt, Lu, Lv, Mz, Na, h1, h2, h3, h4, Int.toNat_natCast, rol]

theorem d_rot5 {E : Env} (h25 : E 25 = some (.code c25)) (x : Int) (hp : Hp) : deepE E (Call E) 25 [.int .u32 x, .int .i64 5] hp = some (.int .u32 (rol x 5)) := d_rot h25 x 5 (by decide) hp
theorem d_rot7 {E : Env} (h25 : E 25 = some (.code c25)) (x : Int) (hp : Hp) : deepE E (Call E) 25 [.int .u32 x, .int .i64 7] hp = some (.int .u32 (rol x 7)) := d_rot h25 x 7 (by decide) hp
theorem d_rot8 {E : Env} (h25 : E 25 = some (.code c25)) (x : Int) (hp : Hp) : deepE E (Call E) 25 [.int .u32 x, .int .i64 8] hp = some (.int .u32 (rol x 8)) := d_rot h25 x 8 (by decide) hp
theorem d_rot13 {E : Env} (h25 : E 25 = some (.code c25)) (x : Int) (hp : Hp) : deepE E (Call E) 25 [.int .u32 x, .int .i64 13] hp = some (.int .u32 (rol x 13)) := d_rot h25 x 13 (by decide) hp
theorem d_rot16 {E : Env} (h25 : E 25 = some (.code c25)) (x : Int) (hp : Hp) : deepE E (Call E) 25 [.int .u32 x, .int .i64 16] hp = some (.int .u32 (rol x 16)) := d_rot h25 x 16 (by decide) hp

/-- Four words. -/
structure Q where
  a : Int
  b : Int
  c : Int
  d : Int

def Q.s (q : Q) : S := .agg [.int .u32 q.a, .int .u32 q.b, .int .u32 q.c, .int .u32 q.d]

def w32 (x : Int) : Int := IntKind.u32.wrap x
def x32 (x y : Int) : Int := ibit .xor .u32 x y

/-- One round. -/
def rnd (q : Q) : Q :=
  let a := w32 (q.a + q.b)
  let b := x32 (rol q.b 5) a
  let a := rol a 16
  let c := w32 (q.c + q.d)
  let d := x32 (rol q.d 8) c
  let a := w32 (a + d)
  let d := x32 (rol d 13) a
  let c := w32 (c + b)
  let b := x32 (rol b 7) c
  let c := rol c 16
  ⟨a, b, c, d⟩

def rnds : Nat → Q → Q
  | 0, q => q
  | n + 1, q => rnds n (rnd q)

def perm (q : Q) : Q := rnds 12 q

theorem loop9 {E : Env} (h25 : E 25 = some (.code c25)) (vars : Vars) (b : Blk) (hv : vars = [(2, b)]) : ∀ (n : Nat) (i : Int) (q : Q), 0 ≤ i → i + n = 12 →
    blockR 0 [2, 3, 4, 5, 6] (loopR E [2, 3, 4, 5, 6, 15] l9_0 ⟨[(2, .loc 2 0), (3, .int .u32 q.a), (4, .int .u32 q.b), (5, .int .u32 q.c), (6, .int .u32 q.d), (15, .int .i64 i)], vars, []⟩) =
      some (.norm, ⟨[(2, .loc 2 0), (3, .int .u32 (rnds n q).a), (4, .int .u32 (rnds n q).b), (5, .int .u32 (rnds n q).c), (6, .int .u32 (rnds n q).d)], vars, []⟩)
  | 0, i, q, hi, h => by
    subst hv
    have h1 : ¬ i < 12 := by omega
    rw [loopR, l9_0]
    simp only [Aa, Ab, Ac, Ad, Ae, Af, Ag, Ah, Ai, Aj, Ak, Al, Am, Ao, Ap, Aq, Ar, Au, Av, Aw, Ay, Az, Ba, Bb, Bc, Bd, Be, Bf, Bg, Bh, Bi, Bj, Bk, Bl, Bm, Bn, Bo, Bp, Bq, Br, Bs, Bt, Bv, Bw, Bx, Bz, Ca, Cb, Cc, Cd, Ce, Cf, Cg, Ch, Ci, Cj, Ck, Cl, Cm, Cn, Co, Cp, Cq, Cr, Cs, Ct, Cu, Cv, Cw, Cy, Cz, Da, Option.map_some, Db, Dc, De, Df, Dg, Dh, Di, Dj, Dk, Dl, Dm, Dn, Dp, Dq, Dr, Dt, Du, Dv, Dw, Dx, Dy, Dz, Ea, Eb, Ec, Ed, Ee, Ef, Eg, Eh, Ei, Ej, Ek, El, Em, Eo, Ep, Er, Es, Et, Eu, Ev, Ew, Ey, Ez, Fa, Fb, Fc, Fe, Ff, Fg, Fh, Fj, Fl, Fm, Fp, Fq, Fs, Ft, Fu, Fv, Fw, Fx, Nat.reduceEqDiff, Nat.reduceAdd, Nat.reduceMul, Nat.reduceLT, Nat.reduceLeDiff, ↓reduceIte, Lw, Lx, Nat.reduceBEq, Ly, Ma, Mb, Mc, reduceCtorEq, Md, Me, Fy, Fz, Ga, Gb, Gc, Gd, Ge, Gf, Gg, Gh, Gi, Gj, Gk, Gl, Gm, Gn, Gp, Gq, Gr, Gs, Gt, Gu, Gv, Gw, Gx, Gy, Gz, Ha, Hb, Hc, Hd, He, Hf, Hg, Hh, Hj, Hk, Hl, Hm, Hn, Ho, Hq, Hr, Hs, Ht, Hu, Hv, Hw, Hy, Hz, Ia, Ib, Ic, Ie, Ig, Ih, Ii, Ij, Ik, Il, Im, Io, Ip, Iq, Ir, Iu, Iv, Iw, Iy, Iz, Ja, Jb, Jc, Jd, Je, Jf, Jg, Jh, Ji, Jj, Jk, Jl, Jm, Jn, Jo, Jp, Jq, Jr, Js, Jt, Ju, Jv, Jw, Jy, Jz, Ka, Kb, Kc, Ke, Kf, Kg, Kh, Ki, Kj, Kk, Kl, Km, Kn, Ko, Kq, Kr, Ks, Kt, Ku, Kv, Kw, Kx, Ky, Kz, and_self, true_and, and_true, Mf, Mg, Mh, Mi, Mj, Mk, Ml, Mm, Mn, Mo, Mp, Mq, Mr, Ms, Int.reduceToNat, Int.reduceLT, Int.reduceEq, Int.reduceLE, List.getElem?_cons_zero, List.getElem?_cons_succ, La, Lb, Lc, Mt, Mu, Mv, Mw, gt_iff_lt, ge_iff_le, Ld, Le, Lf, Lg, Lh, Li, Mx, My, Lj, Ll, Lm, Ln, Lp, Lr, Ls, Lt, Lu, Lv, Mz, Na, h1, decide_false, rnds]
  | n + 1, i, q, hi, h => by
    have ih := loop9 h25 vars b hv n (i + 1) (rnd q) (by omega) (by omega)
    subst hv
    have h1 : i < 12 := by omega
    have h2 : IntKind.i64.wrap (i + 1) = i + 1 := wrap_i64 (by omega) (by omega)
    rw [loopR]
    conv => lhs; arg 3; arg 1; rw [l9_0]
    simp only [Aa, Ab, Ac, Ad, Ae, Af, Ag, Ah, Ai, Aj, Ak, Al, Am, Ao, Ap, Aq, Ar, Au, Av, Aw, Ay, Az, Ba, Bb, Bc, Bd, Be, Bf, Bg, Bh, Bi, Bj, Bk, Bl, Bm, Bn, Bo, Bp, Bq, Br, Bs, Bt, Bv, Bw, Bx, Bz, Ca, Cb, Cc, Cd, Ce, Cf, Cg, Ch, Ci, Cj, Ck, Cl, Cm, Cn, Co, Cp, Cq, Cr, Cs, Ct, Cu, Cv, Cw, Cy, Cz, Da, Option.map_some, Db, Dc, De, Df, Dg, Dh, Di, Dj, Dk, Dl, Dm, Dn, Dp, Dq, Dr, Dt, Du, Dv, Dw, Dx, Dy, Dz, Ea, Eb, Ec, Ed, Ee, Ef, Eg, Eh, Ei, Ej, Ek, El, Em, Eo, Ep, Er, Es, Et, Eu, Ev, Ew, Ey, Ez, Fa, Fb, Fc, Fe, Ff, Fg, Fh, Fj, Fl, Fm, Fp, Fq, Fs, Ft, Fu, Fv, Fw, Fx, Nat.reduceEqDiff, Nat.reduceAdd, Nat.reduceMul, Nat.reduceLT, Nat.reduceLeDiff, ↓reduceIte, Lw, Lx, Nat.reduceBEq, Ly, Ma, Mb, Mc, reduceCtorEq, Md, Me, Fy, Fz, Ga, Gb, Gc, Gd, Ge, Gf, Gg, Gh, Gi, Gj, Gk, Gl, Gm, Gn, Gp, Gq, Gr, Gs, Gt, Gu, Gv, Gw, Gx, Gy, Gz, Ha, Hb, Hc, Hd, He, Hf, Hg, Hh, Hj, Hk, Hl, Hm, Hn, Ho, Hq, Hr, Hs, Ht, Hu, Hv, Hw, Hy, Hz, Ia, Ib, Ic, Ie, Ig, Ih, Ii, Ij, Ik, Il, Im, Io, Ip, Iq, Ir, Iu, Iv, Iw, Iy, Iz, Ja, Jb, Jc, Jd, Je, Jf, Jg, Jh, Ji, Jj, Jk, Jl, Jm, Jn, Jo, Jp, Jq, Jr, Js, Jt, Ju, Jv, Jw, Jy, Jz, Ka, Kb, Kc, Ke, Kf, Kg, Kh, Ki, Kj, Kk, Kl, Km, Kn, Ko, Kq, Kr, Ks, Kt, Ku, Kv, Kw, Kx, Ky, Kz, and_self, true_and, and_true, Mf, Mg, Mh, Mi, Mj, Mk, Ml, Mm, Mn, Mo, Mp, Mq, Mr, Ms, Int.reduceToNat, Int.reduceLT, Int.reduceEq, Int.reduceLE, List.getElem?_cons_zero, List.getElem?_cons_succ, La, Lb, Lc, Mt, Mu, Mv, Mw, gt_iff_lt, ge_iff_le, Ld, Le, Lf, Lg, Lh, Li, Mx, My, Lj, Ll, Lm, Ln, Lp, Lr, Ls, Lt, Lu, Lv, Mz, Na, h1, decide_true, op_call_deep _ _ h25 rfl, d_rot5 h25, d_rot7 h25, d_rot8 h25, d_rot13 h25, d_rot16 h25, h2]
    exact ih

theorem d_permute {E : Env} (h25 : E 25 = some (.code c25)) (h9 : E 9 = some (.code c9)) (q : Q) (hp : Hp) : deepE E (Call E) 9 [q.s] hp = some (perm q).s := by
  rw [deep_code h9 rfl, deep_go]
  simp only [Q.s, mapO_nil, mapO_cons, consO_some, snapA_agg, snapC_int, aggO_some, goD_some]
  rw [Call_mk E h9 _ _ rfl]
  have hd : deepB E 25 = true := deepB_code h25 rfl
  simp only [Aa, Ab, Ac, Ad, Ae, Af, Ag, Ah, Ai, Aj, Ak, Al, Am, Ao, Ap, Aq, Ar, Au, Av, Aw, Ay, Az, Ba, Bb, Bc, Bd, Be, Bf, Bg, Bh, Bi, Bj, Bk, Bl, Bm, Bn, Bo, Bp, Bq, Br, Bs, Bt, Bv, Bw, Bx, Bz, Ca, Cb, Cc, Cd, Ce, Cf, Cg, Ch, Ci, Cj, Ck, Cl, Cm, Cn, Co, Cp, Cq, Cr, Cs, Ct, Cu, Cv, Cw, Cy, Cz, Da, Option.map_some, Db, Dc, De, Df, Dg, Dh, Di, Dj, Dk, Dl, Dm, Dn, Dp, Dq, Dr, Dt, Du, Dv, Dw, Dx, Dy, Dz, Ea, Eb, Ec, Ed, Ee, Ef, Eg, Eh, Ei, Ej, Ek, El, Em, Eo, Ep, Er, Es, Et, Eu, Ev, Ew, Ey, Ez, Fa, Fb, Fc, Fe, Ff, Fg, Fh, Fj, Fl, Fm, Fp, Fq, Fs, Ft, Fu, Fv, Fw, Fx, Nat.reduceEqDiff, Nat.reduceAdd, Nat.reduceMul, Nat.reduceLT, Nat.reduceLeDiff, ↓reduceIte, Lw, Lx, Nat.reduceBEq, Ly, Ma, Mb, Mc, reduceCtorEq, Md, Me, Fy, Fz, Ga, Gb, Gc, Gd, Ge, Gf, Gg, Gh, Gi, Gj, Gk, Gl, Gm, Gn, Gp, Gq, Gr, Gs, Gt, Gu, Gv, Gw, Gx, Gy, Gz, Ha, Hb, Hc, Hd, He, Hf, Hg, Hh, Hj, Hk, Hl, Hm, Hn, Ho, Hq, Hr, Hs, Ht, Hu, Hv, Hw, Hy, Hz, Ia, Ib, Ic, Ie, Ig, Ih, Ii, Ij, Ik, Il, Im, Io, Ip, Iq, Ir, Iu, Iv, Iw, Iy, Iz, Ja, Jb, Jc, Jd, Je, Jf, Jg, Jh, Ji, Jj, Jk, Jl, Jm, Jn, Jo, Jp, Jq, Jr, Js, Jt, Ju, Jv, Jw, Jy, Jz, Ka, Kb, Kc, Ke, Kf, Kg, Kh, Ki, Kj, Kk, Kl, Km, Kn, Ko, Kq, Kr, Ks, Kt, Ku, Kv, Kw, Kx, Ky, Kz, and_self, true_and, and_true, Mf, Mg, Mh, Mi, Mj, Mk, Ml, Mm, Mn, Mo, Mp, Mq, Mr, Ms, Int.reduceToNat, Int.reduceLT, Int.reduceEq, Int.reduceLE, List.getElem?_cons_zero, List.getElem?_cons_succ, La, Lb, Lc, Mt, Mu, Mv, Mw, gt_iff_lt, ge_iff_le, Ld, Le, Lf, Lg, Lh, Li, Mx, My, Lj, Ll, Lm, Ln, Lp, Lr, Ls, Lt, Lu, Lv, Mz, Na, rd9_0, d9_0]
  rw [loop9 h25 _ _ rfl 12 0 q (by decide) (by decide)]
  simp only [Aa, Ab, Ac, Ad, Ae, Af, Ag, Ah, Ai, Aj, Ak, Al, Am, Ao, Ap, Aq, Ar, Au, Av, Aw, Ay, Az, Ba, Bb, Bc, Bd, Be, Bf, Bg, Bh, Bi, Bj, Bk, Bl, Bm, Bn, Bo, Bp, Bq, Br, Bs, Bt, Bv, Bw, Bx, Bz, Ca, Cb, Cc, Cd, Ce, Cf, Cg, Ch, Ci, Cj, Ck, Cl, Cm, Cn, Co, Cp, Cq, Cr, Cs, Ct, Cu, Cv, Cw, Cy, Cz, Da, Option.map_some, Db, Dc, De, Df, Dg, Dh, Di, Dj, Dk, Dl, Dm, Dn, Dp, Dq, Dr, Dt, Du, Dv, Dw, Dx, Dy, Dz, Ea, Eb, Ec, Ed, Ee, Ef, Eg, Eh, Ei, Ej, Ek, El, Em, Eo, Ep, Er, Es, Et, Eu, Ev, Ew, Ey, Ez, Fa, Fb, Fc, Fe, Ff, Fg, Fh, Fj, Fl, Fm, Fp, Fq, Fs, Ft, Fu, Fv, Fw, Fx, Nat.reduceEqDiff, Nat.reduceAdd, Nat.reduceMul, Nat.reduceLT, Nat.reduceLeDiff, ↓reduceIte, Lw, Lx, Nat.reduceBEq, Ly, Ma, Mb, Mc, reduceCtorEq, Md, Me, Fy, Fz, Ga, Gb, Gc, Gd, Ge, Gf, Gg, Gh, Gi, Gj, Gk, Gl, Gm, Gn, Gp, Gq, Gr, Gs, Gt, Gu, Gv, Gw, Gx, Gy, Gz, Ha, Hb, Hc, Hd, He, Hf, Hg, Hh, Hj, Hk, Hl, Hm, Hn, Ho, Hq, Hr, Hs, Ht, Hu, Hv, Hw, Hy, Hz, Ia, Ib, Ic, Ie, Ig, Ih, Ii, Ij, Ik, Il, Im, Io, Ip, Iq, Ir, Iu, Iv, Iw, Iy, Iz, Ja, Jb, Jc, Jd, Je, Jf, Jg, Jh, Ji, Jj, Jk, Jl, Jm, Jn, Jo, Jp, Jq, Jr, Js, Jt, Ju, Jv, Jw, Jy, Jz, Ka, Kb, Kc, Ke, Kf, Kg, Kh, Ki, Kj, Kk, Kl, Km, Kn, Ko, Kq, Kr, Ks, Kt, Ku, Kv, Kw, Kx, Ky, Kz, and_self, true_and, and_true, Mf, Mg, Mh, Mi, Mj, Mk, Ml, Mm, Mn, Mo, Mp, Mq, Mr, Ms, Int.reduceToNat, Int.reduceLT, Int.reduceEq, Int.reduceLE, List.getElem?_cons_zero, List.getElem?_cons_succ, La, Lb, Lc, Mt, Mu, Mv, Mw, gt_iff_lt, ge_iff_le, Ld, Le, Lf, Lg, Lh, Li, Mx, My, Lj, Ll, Lm, Ln, Lp, Lr, Ls, Lt, Lu, Lv, Mz, Na, perm]

theorem d_perm9 {E : Env} (h25 : E 25 = some (.code c25)) (h9 : E 9 = some (.code c9)) (a b c d : Int) (hp : Hp) : deepE E (Call E) 9 [.agg [.int .u32 a, .int .u32 b, .int .u32 c, .int .u32 d]] hp = some (perm ⟨a, b, c, d⟩).s := d_permute h25 h9 ⟨a, b, c, d⟩ hp

end Go.Proofs.Ytepedjncjehmgaa.Sim
namespace Go.Proofs.Ytepedjncjehmgaa.Sim
set_option linter.unusedSimpArgs false
set_option linter.unusedVariables false
open Go
set_option maxRecDepth 100000
set_option linter.unusedSimpArgs false

def u32s (l : List Int) : List S := l.map (.int .u32)

theorem u32s_len (l : List Int) : (u32s l).length = l.length := by simp [u32s]
theorem u32s_get {l : List Int} {k : Nat} {x : Int} (h : l[k]? = some x) : (u32s l)[k]? = some (.int .u32 x) := by simp [u32s, h]

/-- Two words taken in. -/
def take2 (x y : Int) (q : Q) : Q :=
  let p := perm ⟨x32 q.a x, x32 q.b y, q.c, q.d⟩
  ⟨p.a, p.b, x32 p.c x, x32 p.d y⟩

def wloop : List Int → Q → Q
  | [], q => q
  | [x], q => take2 x 0 q
  | x :: y :: r, q => wloop r (take2 x y q)

def words (t : Int) (l : List Int) : Q :=
  let q := wloop l ⟨1702391089, 1651466610, t, w32 l.length⟩
  perm (perm ⟨q.a, q.b, x32 q.c 4294967295, q.d⟩)

theorem loop14 {E : Env} (h25 : E 25 = some (.code c25)) (h9 : E 9 = some (.code c9)) (f p : Bool) (l : List Int) (hl : l.length ≤ 140737488351232) (b4 : Blk) : ∀ (n k : Nat) (q : Q), l.length ≤ k + n →
    blockR 0 [4, 5] (loopR E [1, 4, 5, 6] l14_0 ⟨[(1, .list f p (u32s l)), (4, .loc 4 0), (5, .loc 5 0), (6, .int .i64 k)], [(4, b4), (5, .rows false 4 [q.s])], []⟩) =
      some (.norm, ⟨[(4, .loc 4 0), (5, .loc 5 0)], [(4, b4), (5, .rows false 4 [(wloop (l.drop k) q).s])], []⟩) := by
  intro n
  induction n with
  | zero =>
    intro k q hk
    have h1 : ¬ (k : Int) < (l.length : Int) := by omega
    rw [loopR]
    conv => lhs; arg 3; arg 1; rw [l14_0]
    simp only [Aa, Ab, Ac, Ad, Ae, Af, Ag, Ah, Ai, Aj, Ak, Al, Am, Ao, Ap, Aq, Ar, Au, Av, Aw, Ay, Az, Ba, Bb, Bc, Bd, Be, Bf, Bg, Bh, Bi, Bj, Bk, Bl, Bm, Bn, Bo, Bp, Bq, Br, Bs, Bt, Bv, Bw, Bx, Bz, Ca, Cb, Cc, Cd, Ce, Cf, Cg, Ch, Ci, Cj, Ck, Cl, Cm, Cn, Co, Cp, Cq, Cr, Cs, Ct, Cu, Cv, Cw, Cy, Cz, Da, Option.map_some, Db, Dc, De, Df, Dg, Dh, Di, Dj, Dk, Dl, Dm, Dn, Dp, Dq, Dr, Dt, Du, Dv, Dw, Dx, Dy, Dz, Ea, Eb, Ec, Ed, Ee, Ef, Eg, Eh, Ei, Ej, Ek, El, Em, Eo, Ep, Er, Es, Et, Eu, Ev, Ew, Ey, Ez, Fa, Fb, Fc, Fe, Ff, Fg, Fh, Fj, Fl, Fm, Fp, Fq, Fs, Ft, Fu, Fv, Fw, Fx, Nat.reduceEqDiff, Nat.reduceAdd, Nat.reduceMul, Nat.reduceLT, Nat.reduceLeDiff, ↓reduceIte, Lw, Lx, Nat.reduceBEq, Ly, Ma, Mb, Mc, reduceCtorEq, Md, Me, Fy, Fz, Ga, Gb, Gc, Gd, Ge, Gf, Gg, Gh, Gi, Gj, Gk, Gl, Gm, Gn, Gp, Gq, Gr, Gs, Gt, Gu, Gv, Gw, Gx, Gy, Gz, Ha, Hb, Hc, Hd, He, Hf, Hg, Hh, Hj, Hk, Hl, Hm, Hn, Ho, Hq, Hr, Hs, Ht, Hu, Hv, Hw, Hy, Hz, Ia, Ib, Ic, Ie, Ig, Ih, Ii, Ij, Ik, Il, Im, Io, Ip, Iq, Ir, Iu, Iv, Iw, Iy, Iz, Ja, Jb, Jc, Jd, Je, Jf, Jg, Jh, Ji, Jj, Jk, Jl, Jm, Jn, Jo, Jp, Jq, Jr, Js, Jt, Ju, Jv, Jw, Jy, Jz, Ka, Kb, Kc, Ke, Kf, Kg, Kh, Ki, Kj, Kk, Kl, Km, Kn, Ko, Kq, Kr, Ks, Kt, Ku, Kv, Kw, Kx, Ky, Kz, and_self, true_and, and_true, Mf, Mg, Mh, Mi, Mj, Mk, Ml, Mm, Mn, Mo, Mp, Mq, Mr, Ms, Int.reduceToNat, Int.reduceLT, Int.reduceEq, Int.reduceLE, List.getElem?_cons_zero, List.getElem?_cons_succ, La, Lb, Lc, Mt, Mu, Mv, Mw, gt_iff_lt, ge_iff_le, Ld, Le, Lf, Lg, Lh, Li, Mx, My, Lj, Ll, Lm, Ln, Lp, Lr, Ls, Lt, Lu, Lv, Mz, Na, u32s_len, h1, decide_false]
    rw [List.drop_eq_nil_of_le (by omega)]
    rfl
  | succ n ih =>
    intro k q hk
    by_cases h : k < l.length
    · have h1 : (k : Int) < (l.length : Int) := by omega
      have hx := u32s_get (List.getElem?_eq_getElem h)
      have hw1 : IntKind.i64.wrap ((k : Int) + 1) = ((k + 1 : Nat) : Int) := wrap_i64 (by omega) (by omega)
      have hw2 : IntKind.i64.wrap ((k : Int) + 2) = ((k + 2 : Nat) : Int) := wrap_i64 (by omega) (by omega)
      rw [loopR]
      conv => lhs; arg 3; arg 1; rw [l14_0]
      by_cases h' : k + 1 < l.length
      · have h2 : ((k + 1 : Nat) : Int) < (l.length : Int) := by omega
        have hy := u32s_get (List.getElem?_eq_getElem h')
        have ih' := ih (k + 2) (take2 l[k] l[k + 1] q) (by omega)
        rw [List.drop_eq_getElem_cons h, List.drop_eq_getElem_cons h', wloop]
        simp only [Aa, Ab, Ac, Ad, Ae, Af, Ag, Ah, Ai, Aj, Ak, Al, Am, Ao, Ap, Aq, Ar, Au, Av, Aw, Ay, Az, Ba, Bb, Bc, Bd, Be, Bf, Bg, Bh, Bi, Bj, Bk, Bl, Bm, Bn, Bo, Bp, Bq, Br, Bs, Bt, Bv, Bw, Bx, Bz, Ca, Cb, Cc, Cd, Ce, Cf, Cg, Ch, Ci, Cj, Ck, Cl, Cm, Cn, Co, Cp, Cq, Cr, Cs, Ct, Cu, Cv, Cw, Cy, Cz, Da, Option.map_some, Db, Dc, De, Df, Dg, Dh, Di, Dj, Dk, Dl, Dm, Dn, Dp, Dq, Dr, Dt, Du, Dv, Dw, Dx, Dy, Dz, Ea, Eb, Ec, Ed, Ee, Ef, Eg, Eh, Ei, Ej, Ek, El, Em, Eo, Ep, Er, Es, Et, Eu, Ev, Ew, Ey, Ez, Fa, Fb, Fc, Fe, Ff, Fg, Fh, Fj, Fl, Fm, Fp, Fq, Fs, Ft, Fu, Fv, Fw, Fx, Nat.reduceEqDiff, Nat.reduceAdd, Nat.reduceMul, Nat.reduceLT, Nat.reduceLeDiff, ↓reduceIte, Lw, Lx, Nat.reduceBEq, Ly, Ma, Mb, Mc, reduceCtorEq, Md, Me, Fy, Fz, Ga, Gb, Gc, Gd, Ge, Gf, Gg, Gh, Gi, Gj, Gk, Gl, Gm, Gn, Gp, Gq, Gr, Gs, Gt, Gu, Gv, Gw, Gx, Gy, Gz, Ha, Hb, Hc, Hd, He, Hf, Hg, Hh, Hj, Hk, Hl, Hm, Hn, Ho, Hq, Hr, Hs, Ht, Hu, Hv, Hw, Hy, Hz, Ia, Ib, Ic, Ie, Ig, Ih, Ii, Ij, Ik, Il, Im, Io, Ip, Iq, Ir, Iu, Iv, Iw, Iy, Iz, Ja, Jb, Jc, Jd, Je, Jf, Jg, Jh, Ji, Jj, Jk, Jl, Jm, Jn, Jo, Jp, Jq, Jr, Js, Jt, Ju, Jv, Jw, Jy, Jz, Ka, Kb, Kc, Ke, Kf, Kg, Kh, Ki, Kj, Kk, Kl, Km, Kn, Ko, Kq, Kr, Ks, Kt, Ku, Kv, Kw, Kx, Ky, Kz, and_self, true_and, and_true, Mf, Mg, Mh, Mi, Mj, Mk, Ml, Mm, Mn, Mo, Mp, Mq, Mr, Ms, Int.reduceToNat, Int.reduceLT, Int.reduceEq, Int.reduceLE, List.getElem?_cons_zero, List.getElem?_cons_succ, La, Lb, Lc, Mt, Mu, Mv, Mw, gt_iff_lt, ge_iff_le, Ld, Le, Lf, Lg, Lh, Li, Mx, My, Lj, Ll, Lm, Ln, Lp, Lr, Ls, Lt, Lu, Lv, Mz, Na, u32s_len, h1, h2, decide_true, hx, hy, hw1, hw2, Q.s, op_call_deep _ _ h9 rfl, d_perm9 h25 h9]
        exact ih'
      · have h2 : ¬ ((k + 1 : Nat) : Int) < (l.length : Int) := by omega
        have ih' := ih (k + 2) (take2 l[k] 0 q) (by omega)
        rw [List.drop_eq_nil_of_le (by omega), wloop] at ih'
        rw [List.drop_eq_getElem_cons h, List.drop_eq_nil_of_le (by omega), wloop]
        simp only [Aa, Ab, Ac, Ad, Ae, Af, Ag, Ah, Ai, Aj, Ak, Al, Am, Ao, Ap, Aq, Ar, Au, Av, Aw, Ay, Az, Ba, Bb, Bc, Bd, Be, Bf, Bg, Bh, Bi, Bj, Bk, Bl, Bm, Bn, Bo, Bp, Bq, Br, Bs, Bt, Bv, Bw, Bx, Bz, Ca, Cb, Cc, Cd, Ce, Cf, Cg, Ch, Ci, Cj, Ck, Cl, Cm, Cn, Co, Cp, Cq, Cr, Cs, Ct, Cu, Cv, Cw, Cy, Cz, Da, Option.map_some, Db, Dc, De, Df, Dg, Dh, Di, Dj, Dk, Dl, Dm, Dn, Dp, Dq, Dr, Dt, Du, Dv, Dw, Dx, Dy, Dz, Ea, Eb, Ec, Ed, Ee, Ef, Eg, Eh, Ei, Ej, Ek, El, Em, Eo, Ep, Er, Es, Et, Eu, Ev, Ew, Ey, Ez, Fa, Fb, Fc, Fe, Ff, Fg, Fh, Fj, Fl, Fm, Fp, Fq, Fs, Ft, Fu, Fv, Fw, Fx, Nat.reduceEqDiff, Nat.reduceAdd, Nat.reduceMul, Nat.reduceLT, Nat.reduceLeDiff, ↓reduceIte, Lw, Lx, Nat.reduceBEq, Ly, Ma, Mb, Mc, reduceCtorEq, Md, Me, Fy, Fz, Ga, Gb, Gc, Gd, Ge, Gf, Gg, Gh, Gi, Gj, Gk, Gl, Gm, Gn, Gp, Gq, Gr, Gs, Gt, Gu, Gv, Gw, Gx, Gy, Gz, Ha, Hb, Hc, Hd, He, Hf, Hg, Hh, Hj, Hk, Hl, Hm, Hn, Ho, Hq, Hr, Hs, Ht, Hu, Hv, Hw, Hy, Hz, Ia, Ib, Ic, Ie, Ig, Ih, Ii, Ij, Ik, Il, Im, Io, Ip, Iq, Ir, Iu, Iv, Iw, Iy, Iz, Ja, Jb, Jc, Jd, Je, Jf, Jg, Jh, Ji, Jj, Jk, Jl, Jm, Jn, Jo, Jp, Jq, Jr, Js, Jt, Ju, Jv, Jw, Jy, Jz, Ka, Kb, Kc, Ke, Kf, Kg, Kh, Ki, Kj, Kk, Kl, Km, Kn, Ko, Kq, Kr, Ks, Kt, Ku, Kv, Kw, Kx, Ky, Kz, and_self, true_and, and_true, Mf, Mg, Mh, Mi, Mj, Mk, Ml, Mm, Mn, Mo, Mp, Mq, Mr, Ms, Int.reduceToNat, Int.reduceLT, Int.reduceEq, Int.reduceLE, List.getElem?_cons_zero, List.getElem?_cons_succ, La, Lb, Lc, Mt, Mu, Mv, Mw, gt_iff_lt, ge_iff_le, Ld, Le, Lf, Lg, Lh, Li, Mx, My, Lj, Ll, Lm, Ln, Lp, Lr, Ls, Lt, Lu, Lv, Mz, Na, u32s_len, h1, h2, decide_true, decide_false, hx, hw1, hw2, Q.s, op_call_deep _ _ h9 rfl, d_perm9 h25 h9]
        exact ih'
    · have h1 : ¬ (k : Int) < (l.length : Int) := by omega
      rw [loopR]
      conv => lhs; arg 3; arg 1; rw [l14_0]
      simp only [Aa, Ab, Ac, Ad, Ae, Af, Ag, Ah, Ai, Aj, Ak, Al, Am, Ao, Ap, Aq, Ar, Au, Av, Aw, Ay, Az, Ba, Bb, Bc, Bd, Be, Bf, Bg, Bh, Bi, Bj, Bk, Bl, Bm, Bn, Bo, Bp, Bq, Br, Bs, Bt, Bv, Bw, Bx, Bz, Ca, Cb, Cc, Cd, Ce, Cf, Cg, Ch, Ci, Cj, Ck, Cl, Cm, Cn, Co, Cp, Cq, Cr, Cs, Ct, Cu, Cv, Cw, Cy, Cz, Da, Option.map_some, Db, Dc, De, Df, Dg, Dh, Di, Dj, Dk, Dl, Dm, Dn, Dp, Dq, Dr, Dt, Du, Dv, Dw, Dx, Dy, Dz, Ea, Eb, Ec, Ed, Ee, Ef, Eg, Eh, Ei, Ej, Ek, El, Em, Eo, Ep, Er, Es, Et, Eu, Ev, Ew, Ey, Ez, Fa, Fb, Fc, Fe, Ff, Fg, Fh, Fj, Fl, Fm, Fp, Fq, Fs, Ft, Fu, Fv, Fw, Fx, Nat.reduceEqDiff, Nat.reduceAdd, Nat.reduceMul, Nat.reduceLT, Nat.reduceLeDiff, ↓reduceIte, Lw, Lx, Nat.reduceBEq, Ly, Ma, Mb, Mc, reduceCtorEq, Md, Me, Fy, Fz, Ga, Gb, Gc, Gd, Ge, Gf, Gg, Gh, Gi, Gj, Gk, Gl, Gm, Gn, Gp, Gq, Gr, Gs, Gt, Gu, Gv, Gw, Gx, Gy, Gz, Ha, Hb, Hc, Hd, He, Hf, Hg, Hh, Hj, Hk, Hl, Hm, Hn, Ho, Hq, Hr, Hs, Ht, Hu, Hv, Hw, Hy, Hz, Ia, Ib, Ic, Ie, Ig, Ih, Ii, Ij, Ik, Il, Im, Io, Ip, Iq, Ir, Iu, Iv, Iw, Iy, Iz, Ja, Jb, Jc, Jd, Je, Jf, Jg, Jh, Ji, Jj, Jk, Jl, Jm, Jn, Jo, Jp, Jq, Jr, Js, Jt, Ju, Jv, Jw, Jy, Jz, Ka, Kb, Kc, Ke, Kf, Kg, Kh, Ki, Kj, Kk, Kl, Km, Kn, Ko, Kq, Kr, Ks, Kt, Ku, Kv, Kw, Kx, Ky, Kz, and_self, true_and, and_true, Mf, Mg, Mh, Mi, Mj, Mk, Ml, Mm, Mn, Mo, Mp, Mq, Mr, Ms, Int.reduceToNat, Int.reduceLT, Int.reduceEq, Int.reduceLE, List.getElem?_cons_zero, List.getElem?_cons_succ, La, Lb, Lc, Mt, Mu, Mv, Mw, gt_iff_lt, ge_iff_le, Ld, Le, Lf, Lg, Lh, Li, Mx, My, Lj, Ll, Lm, Ln, Lp, Lr, Ls, Lt, Lu, Lv, Mz, Na, u32s_len, h1, decide_false]
      rw [List.drop_eq_nil_of_le (by omega)]
      rfl

theorem d_words14 {E : Env} (h25 : E 25 = some (.code c25)) (h9 : E 9 = some (.code c9)) (h14 : E 14 = some (.code c14)) (t : Int) (f p : Bool) (l : List Int) (hl : l.length ≤ 140737488351232) (hp : Hp) :
    deepE E (Call E) 14 [.int .u32 t, .list f p (u32s l)] hp = some (words t l).s := by
  rw [deep_code h14 rfl, deep_go]
  simp only [mapO_nil, mapO_cons, consO_some, snapA_int, snapA_list, goD_some]
  rw [Call_mk E h14 _ _ rfl]
  simp only [Aa, Ab, Ac, Ad, Ae, Af, Ag, Ah, Ai, Aj, Ak, Al, Am, Ao, Ap, Aq, Ar, Au, Av, Aw, Ay, Az, Ba, Bb, Bc, Bd, Be, Bf, Bg, Bh, Bi, Bj, Bk, Bl, Bm, Bn, Bo, Bp, Bq, Br, Bs, Bt, Bv, Bw, Bx, Bz, Ca, Cb, Cc, Cd, Ce, Cf, Cg, Ch, Ci, Cj, Ck, Cl, Cm, Cn, Co, Cp, Cq, Cr, Cs, Ct, Cu, Cv, Cw, Cy, Cz, Da, Option.map_some, Db, Dc, De, Df, Dg, Dh, Di, Dj, Dk, Dl, Dm, Dn, Dp, Dq, Dr, Dt, Du, Dv, Dw, Dx, Dy, Dz, Ea, Eb, Ec, Ed, Ee, Ef, Eg, Eh, Ei, Ej, Ek, El, Em, Eo, Ep, Er, Es, Et, Eu, Ev, Ew, Ey, Ez, Fa, Fb, Fc, Fe, Ff, Fg, Fh, Fj, Fl, Fm, Fp, Fq, Fs, Ft, Fu, Fv, Fw, Fx, Nat.reduceEqDiff, Nat.reduceAdd, Nat.reduceMul, Nat.reduceLT, Nat.reduceLeDiff, ↓reduceIte, Lw, Lx, Nat.reduceBEq, Ly, Ma, Mb, Mc, reduceCtorEq, Md, Me, Fy, Fz, Ga, Gb, Gc, Gd, Ge, Gf, Gg, Gh, Gi, Gj, Gk, Gl, Gm, Gn, Gp, Gq, Gr, Gs, Gt, Gu, Gv, Gw, Gx, Gy, Gz, Ha, Hb, Hc, Hd, He, Hf, Hg, Hh, Hj, Hk, Hl, Hm, Hn, Ho, Hq, Hr, Hs, Ht, Hu, Hv, Hw, Hy, Hz, Ia, Ib, Ic, Ie, Ig, Ih, Ii, Ij, Ik, Il, Im, Io, Ip, Iq, Ir, Iu, Iv, Iw, Iy, Iz, Ja, Jb, Jc, Jd, Je, Jf, Jg, Jh, Ji, Jj, Jk, Jl, Jm, Jn, Jo, Jp, Jq, Jr, Js, Jt, Ju, Jv, Jw, Jy, Jz, Ka, Kb, Kc, Ke, Kf, Kg, Kh, Ki, Kj, Kk, Kl, Km, Kn, Ko, Kq, Kr, Ks, Kt, Ku, Kv, Kw, Kx, Ky, Kz, and_self, true_and, and_true, Mf, Mg, Mh, Mi, Mj, Mk, Ml, Mm, Mn, Mo, Mp, Mq, Mr, Ms, Int.reduceToNat, Int.reduceLT, Int.reduceEq, Int.reduceLE, List.getElem?_cons_zero, List.getElem?_cons_succ, La, Lb, Lc, Mt, Mu, Mv, Mw, gt_iff_lt, ge_iff_le, Ld, Le, Lf, Lg, Lh, Li, Mx, My, Lj, Ll, Lm, Ln, Lp, Lr, Ls, Lt, Lu, Lv, Mz, Na, u32s_len]
  have hloop := loop14 h25 h9 f p l hl (.rows false 4 [.agg [.int .u32 0, .int .u32 0, .int .u32 0, .int .u32 0]]) l.length 0 ⟨1702391089, 1651466610, t, w32 l.length⟩ (by omega)
  simp only [Q.s, w32, Int.cast_ofNat_Int] at hloop
  rw [hloop]
  simp only [Aa, Ab, Ac, Ad, Ae, Af, Ag, Ah, Ai, Aj, Ak, Al, Am, Ao, Ap, Aq, Ar, Au, Av, Aw, Ay, Az, Ba, Bb, Bc, Bd, Be, Bf, Bg, Bh, Bi, Bj, Bk, Bl, Bm, Bn, Bo, Bp, Bq, Br, Bs, Bt, Bv, Bw, Bx, Bz, Ca, Cb, Cc, Cd, Ce, Cf, Cg, Ch, Ci, Cj, Ck, Cl, Cm, Cn, Co, Cp, Cq, Cr, Cs, Ct, Cu, Cv, Cw, Cy, Cz, Da, Option.map_some, Db, Dc, De, Df, Dg, Dh, Di, Dj, Dk, Dl, Dm, Dn, Dp, Dq, Dr, Dt, Du, Dv, Dw, Dx, Dy, Dz, Ea, Eb, Ec, Ed, Ee, Ef, Eg, Eh, Ei, Ej, Ek, El, Em, Eo, Ep, Er, Es, Et, Eu, Ev, Ew, Ey, Ez, Fa, Fb, Fc, Fe, Ff, Fg, Fh, Fj, Fl, Fm, Fp, Fq, Fs, Ft, Fu, Fv, Fw, Fx, Nat.reduceEqDiff, Nat.reduceAdd, Nat.reduceMul, Nat.reduceLT, Nat.reduceLeDiff, ↓reduceIte, Lw, Lx, Nat.reduceBEq, Ly, Ma, Mb, Mc, reduceCtorEq, Md, Me, Fy, Fz, Ga, Gb, Gc, Gd, Ge, Gf, Gg, Gh, Gi, Gj, Gk, Gl, Gm, Gn, Gp, Gq, Gr, Gs, Gt, Gu, Gv, Gw, Gx, Gy, Gz, Ha, Hb, Hc, Hd, He, Hf, Hg, Hh, Hj, Hk, Hl, Hm, Hn, Ho, Hq, Hr, Hs, Ht, Hu, Hv, Hw, Hy, Hz, Ia, Ib, Ic, Ie, Ig, Ih, Ii, Ij, Ik, Il, Im, Io, Ip, Iq, Ir, Iu, Iv, Iw, Iy, Iz, Ja, Jb, Jc, Jd, Je, Jf, Jg, Jh, Ji, Jj, Jk, Jl, Jm, Jn, Jo, Jp, Jq, Jr, Js, Jt, Ju, Jv, Jw, Jy, Jz, Ka, Kb, Kc, Ke, Kf, Kg, Kh, Ki, Kj, Kk, Kl, Km, Kn, Ko, Kq, Kr, Ks, Kt, Ku, Kv, Kw, Kx, Ky, Kz, and_self, true_and, and_true, Mf, Mg, Mh, Mi, Mj, Mk, Ml, Mm, Mn, Mo, Mp, Mq, Mr, Ms, Int.reduceToNat, Int.reduceLT, Int.reduceEq, Int.reduceLE, List.getElem?_cons_zero, List.getElem?_cons_succ, La, Lb, Lc, Mt, Mu, Mv, Mw, gt_iff_lt, ge_iff_le, Ld, Le, Lf, Lg, Lh, Li, Mx, My, Lj, Ll, Lm, Ln, Lp, Lr, Ls, Lt, Lu, Lv, Mz, Na, op_call_deep _ _ h9 rfl, d_perm9 h25 h9, List.drop_zero, Q.s, words, w32, x32]

end Go.Proofs.Ytepedjncjehmgaa.Sim
namespace Go.Proofs.Ytepedjncjehmgaa.Sim
set_option linter.unusedSimpArgs false
set_option linter.unusedVariables false
open Go
set_option maxRecDepth 100000
set_option linter.unusedSimpArgs false

def i64s (l : List Int) : List S := l.map (.int .i64)
theorem i64s_len (l : List Int) : (i64s l).length = l.length := by simp [i64s]
theorem i64s_get {l : List Int} {k : Nat} {x : Int} (h : l[k]? = some x) : (i64s l)[k]? = some (.int .i64 x) := by simp [i64s, h]
theorem u32s_app (a b : List Int) : u32s (a ++ b) = u32s a ++ u32s b := by simp [u32s]
theorem u32s_esz (l : List Int) : eszAll 1 (u32s l) = true := by simp [u32s, eszAll, S.cells]
theorem u32s_atom (l : List Int) : (u32s l).all S.atomR = true := by simp [u32s, S.atomR, S.atom]

/-- The two words of a number. -/
def numW (x : Int) : List Int := [IntKind.u32.wrap (IntKind.u64.wrap x), IntKind.u32.wrap (ishr .u64 (IntKind.u64.wrap x) 32)]

theorem loop15 {E : Env} (t : Int) (f p : Bool) (l : List Int) (hl : l.length ≤ 1000) (b4 : Blk) : ∀ (n k : Nat) (acc : List Int), l.length ≤ k + n → acc.length ≤ 2 * k → k ≤ l.length →
    blockR 0 [0, 4, 5] (loopR E [0, 4, 5, 8, 9, 10] l15_0 ⟨[(0, .int .u32 t), (4, .loc 4 0), (5, growS [] (u32s acc)), (8, .list f p (i64s l)), (9, .int .i64 l.length), (10, .int .i64 k)], [(4, b4)], growH [] 1 (u32s acc)⟩) =
      some (.norm, ⟨[(0, .int .u32 t), (4, .loc 4 0), (5, growS [] (u32s (acc ++ (l.drop k).flatMap numW)))], [(4, b4)], growH [] 1 (u32s (acc ++ (l.drop k).flatMap numW))⟩) := by
  intro n
  induction n with
  | zero =>
    intro k acc hk ha hkl
    have h1 : ¬ (k : Int) < (l.length : Int) := by omega
    rw [loopR]
    conv => lhs; arg 3; arg 1; rw [l15_0]
    simp only [Aa, Ab, Ac, Ad, Ae, Af, Ag, Ah, Ai, Aj, Ak, Al, Am, Ao, Ap, Aq, Ar, Au, Av, Aw, Ay, Az, Ba, Bb, Bc, Bd, Be, Bf, Bg, Bh, Bi, Bj, Bk, Bl, Bm, Bn, Bo, Bp, Bq, Br, Bs, Bt, Bv, Bw, Bx, Bz, Ca, Cb, Cc, Cd, Ce, Cf, Cg, Ch, Ci, Cj, Ck, Cl, Cm, Cn, Co, Cp, Cq, Cr, Cs, Ct, Cu, Cv, Cw, Cy, Cz, Da, Option.map_some, Db, Dc, De, Df, Dg, Dh, Di, Dj, Dk, Dl, Dm, Dn, Dp, Dq, Dr, Dt, Du, Dv, Dw, Dx, Dy, Dz, Ea, Eb, Ec, Ed, Ee, Ef, Eg, Eh, Ei, Ej, Ek, El, Em, Eo, Ep, Er, Es, Et, Eu, Ev, Ew, Ey, Ez, Fa, Fb, Fc, Fe, Ff, Fg, Fh, Fj, Fl, Fm, Fp, Fq, Fs, Ft, Fu, Fv, Fw, Fx, Nat.reduceEqDiff, Nat.reduceAdd, Nat.reduceMul, Nat.reduceLT, Nat.reduceLeDiff, ↓reduceIte, Lw, Lx, Nat.reduceBEq, Ly, Ma, Mb, Mc, reduceCtorEq, Md, Me, Fy, Fz, Ga, Gb, Gc, Gd, Ge, Gf, Gg, Gh, Gi, Gj, Gk, Gl, Gm, Gn, Gp, Gq, Gr, Gs, Gt, Gu, Gv, Gw, Gx, Gy, Gz, Ha, Hb, Hc, Hd, He, Hf, Hg, Hh, Hj, Hk, Hl, Hm, Hn, Ho, Hq, Hr, Hs, Ht, Hu, Hv, Hw, Hy, Hz, Ia, Ib, Ic, Ie, Ig, Ih, Ii, Ij, Ik, Il, Im, Io, Ip, Iq, Ir, Iu, Iv, Iw, Iy, Iz, Ja, Jb, Jc, Jd, Je, Jf, Jg, Jh, Ji, Jj, Jk, Jl, Jm, Jn, Jo, Jp, Jq, Jr, Js, Jt, Ju, Jv, Jw, Jy, Jz, Ka, Kb, Kc, Ke, Kf, Kg, Kh, Ki, Kj, Kk, Kl, Km, Kn, Ko, Kq, Kr, Ks, Kt, Ku, Kv, Kw, Kx, Ky, Kz, and_self, true_and, and_true, Mf, Mg, Mh, Mi, Mj, Mk, Ml, Mm, Mn, Mo, Mp, Mq, Mr, Ms, Int.reduceToNat, Int.reduceLT, Int.reduceEq, Int.reduceLE, List.getElem?_cons_zero, List.getElem?_cons_succ, La, Lb, Lc, Mt, Mu, Mv, Mw, gt_iff_lt, ge_iff_le, Ld, Le, Lf, Lg, Lh, Li, Mx, My, Lj, Ll, Lm, Ln, Lp, Lr, Ls, Lt, Lu, Lv, Mz, Na, keep1_grow, h1, decide_false]
    rw [List.drop_eq_nil_of_le (by omega)]
    simp only [List.flatMap_nil, List.append_nil]
  | succ n ih =>
    intro k acc hk ha hkl
    by_cases h : k < l.length
    · have h1 : (k : Int) < (l.length : Int) := by omega
      have hx := i64s_get (List.getElem?_eq_getElem h)
      have hw1 : IntKind.i64.wrap ((k : Int) + 1) = ((k + 1 : Nat) : Int) := wrap_i64 (by omega) (by omega)
      have ih' := ih (k + 1) (acc ++ numW l[k]) (by omega) (by simp [numW]; omega) (by omega)
      have hap := fun (d : Nat) (os : List KO) (fr : Fr) (vars : Vars) => app_grow (E := E) (C := Call E) (d := d) (os := os) (fr := fr) (vars := vars) (H := []) (esz := 1) (bytes := 4) (f := true) (p := true) (ys := u32s (numW l[k])) (u32s_esz acc) (u32s_esz _) (by simp [u32s, numW, okLen]; omega) (by simp [u32s, numW])
      rw [← u32s_app] at hap
      have hys : u32s (numW l[k]) = [.int .u32 (IntKind.u32.wrap (IntKind.u64.wrap l[k])), .int .u32 (IntKind.u32.wrap (ishr .u64 (IntKind.u64.wrap l[k]) 32))] := rfl
      rw [hys] at hap
      rw [loopR]
      conv => lhs; arg 3; arg 1; rw [l15_0]
      rw [List.drop_eq_getElem_cons h, List.flatMap_cons, ← List.append_assoc]
      simp only [Aa, Ab, Ac, Ad, Ae, Af, Ag, Ah, Ai, Aj, Ak, Al, Am, Ao, Ap, Aq, Ar, Au, Av, Aw, Ay, Az, Ba, Bb, Bc, Bd, Be, Bf, Bg, Bh, Bi, Bj, Bk, Bl, Bm, Bn, Bo, Bp, Bq, Br, Bs, Bt, Bv, Bw, Bx, Bz, Ca, Cb, Cc, Cd, Ce, Cf, Cg, Ch, Ci, Cj, Ck, Cl, Cm, Cn, Co, Cp, Cq, Cr, Cs, Ct, Cu, Cv, Cw, Cy, Cz, Da, Option.map_some, Db, Dc, De, Df, Dg, Dh, Di, Dj, Dk, Dl, Dm, Dn, Dp, Dq, Dr, Dt, Du, Dv, Dw, Dx, Dy, Dz, Ea, Eb, Ec, Ed, Ee, Ef, Eg, Eh, Ei, Ej, Ek, El, Em, Eo, Ep, Er, Es, Et, Eu, Ev, Ew, Ey, Ez, Fa, Fb, Fc, Fe, Ff, Fg, Fh, Fj, Fl, Fm, Fp, Fq, Fs, Ft, Fu, Fv, Fw, Fx, Nat.reduceEqDiff, Nat.reduceAdd, Nat.reduceMul, Nat.reduceLT, Nat.reduceLeDiff, ↓reduceIte, Lw, Lx, Nat.reduceBEq, Ly, Ma, Mb, Mc, reduceCtorEq, Md, Me, Fy, Fz, Ga, Gb, Gc, Gd, Ge, Gf, Gg, Gh, Gi, Gj, Gk, Gl, Gm, Gn, Gp, Gq, Gr, Gs, Gt, Gu, Gv, Gw, Gx, Gy, Gz, Ha, Hb, Hc, Hd, He, Hf, Hg, Hh, Hj, Hk, Hl, Hm, Hn, Ho, Hq, Hr, Hs, Ht, Hu, Hv, Hw, Hy, Hz, Ia, Ib, Ic, Ie, Ig, Ih, Ii, Ij, Ik, Il, Im, Io, Ip, Iq, Ir, Iu, Iv, Iw, Iy, Iz, Ja, Jb, Jc, Jd, Je, Jf, Jg, Jh, Ji, Jj, Jk, Jl, Jm, Jn, Jo, Jp, Jq, Jr, Js, Jt, Ju, Jv, Jw, Jy, Jz, Ka, Kb, Kc, Ke, Kf, Kg, Kh, Ki, Kj, Kk, Kl, Km, Kn, Ko, Kq, Kr, Ks, Kt, Ku, Kv, Kw, Kx, Ky, Kz, and_self, true_and, and_true, Mf, Mg, Mh, Mi, Mj, Mk, Ml, Mm, Mn, Mo, Mp, Mq, Mr, Ms, Int.reduceToNat, Int.reduceLT, Int.reduceEq, Int.reduceLE, List.getElem?_cons_zero, List.getElem?_cons_succ, La, Lb, Lc, Mt, Mu, Mv, Mw, gt_iff_lt, ge_iff_le, Ld, Le, Lf, Lg, Lh, Li, Mx, My, Lj, Ll, Lm, Ln, Lp, Lr, Ls, Lt, Lu, Lv, Mz, Na, keep1_grow, h1, decide_true, hx, hw1, hap]
      exact ih'
    · have h1 : ¬ (k : Int) < (l.length : Int) := by omega
      rw [loopR]
      conv => lhs; arg 3; arg 1; rw [l15_0]
      simp only [Aa, Ab, Ac, Ad, Ae, Af, Ag, Ah, Ai, Aj, Ak, Al, Am, Ao, Ap, Aq, Ar, Au, Av, Aw, Ay, Az, Ba, Bb, Bc, Bd, Be, Bf, Bg, Bh, Bi, Bj, Bk, Bl, Bm, Bn, Bo, Bp, Bq, Br, Bs, Bt, Bv, Bw, Bx, Bz, Ca, Cb, Cc, Cd, Ce, Cf, Cg, Ch, Ci, Cj, Ck, Cl, Cm, Cn, Co, Cp, Cq, Cr, Cs, Ct, Cu, Cv, Cw, Cy, Cz, Da, Option.map_some, Db, Dc, De, Df, Dg, Dh, Di, Dj, Dk, Dl, Dm, Dn, Dp, Dq, Dr, Dt, Du, Dv, Dw, Dx, Dy, Dz, Ea, Eb, Ec, Ed, Ee, Ef, Eg, Eh, Ei, Ej, Ek, El, Em, Eo, Ep, Er, Es, Et, Eu, Ev, Ew, Ey, Ez, Fa, Fb, Fc, Fe, Ff, Fg, Fh, Fj, Fl, Fm, Fp, Fq, Fs, Ft, Fu, Fv, Fw, Fx, Nat.reduceEqDiff, Nat.reduceAdd, Nat.reduceMul, Nat.reduceLT, Nat.reduceLeDiff, ↓reduceIte, Lw, Lx, Nat.reduceBEq, Ly, Ma, Mb, Mc, reduceCtorEq, Md, Me, Fy, Fz, Ga, Gb, Gc, Gd, Ge, Gf, Gg, Gh, Gi, Gj, Gk, Gl, Gm, Gn, Gp, Gq, Gr, Gs, Gt, Gu, Gv, Gw, Gx, Gy, Gz, Ha, Hb, Hc, Hd, He, Hf, Hg, Hh, Hj, Hk, Hl, Hm, Hn, Ho, Hq, Hr, Hs, Ht, Hu, Hv, Hw, Hy, Hz, Ia, Ib, Ic, Ie, Ig, Ih, Ii, Ij, Ik, Il, Im, Io, Ip, Iq, Ir, Iu, Iv, Iw, Iy, Iz, Ja, Jb, Jc, Jd, Je, Jf, Jg, Jh, Ji, Jj, Jk, Jl, Jm, Jn, Jo, Jp, Jq, Jr, Js, Jt, Ju, Jv, Jw, Jy, Jz, Ka, Kb, Kc, Ke, Kf, Kg, Kh, Ki, Kj, Kk, Kl, Km, Kn, Ko, Kq, Kr, Ks, Kt, Ku, Kv, Kw, Kx, Ky, Kz, and_self, true_and, and_true, Mf, Mg, Mh, Mi, Mj, Mk, Ml, Mm, Mn, Mo, Mp, Mq, Mr, Ms, Int.reduceToNat, Int.reduceLT, Int.reduceEq, Int.reduceLE, List.getElem?_cons_zero, List.getElem?_cons_succ, La, Lb, Lc, Mt, Mu, Mv, Mw, gt_iff_lt, ge_iff_le, Ld, Le, Lf, Lg, Lh, Li, Mx, My, Lj, Ll, Lm, Ln, Lp, Lr, Ls, Lt, Lu, Lv, Mz, Na, keep1_grow, h1, decide_false]
      rw [List.drop_eq_nil_of_le (by omega)]
      simp only [List.flatMap_nil, List.append_nil]

theorem numW_len (l : List Int) : (l.flatMap numW).length = 2 * l.length := by
  induction l with
  | nil => rfl
  | cons a r ih => simp [numW, ih]; omega

theorem d_numbers15 {E : Env} (h25 : E 25 = some (.code c25)) (h9 : E 9 = some (.code c9)) (h14 : E 14 = some (.code c14)) (h15 : E 15 = some (.code c15)) (t : Int) (f p : Bool) (l : List Int) (hl : l.length ≤ 1000) (hp : Hp) :
    deepE E (Call E) 15 [.int .u32 t, .list f p (i64s l)] hp = some (words t (l.flatMap numW)).s := by
  rw [deep_code h15 rfl, deep_go]
  simp only [mapO_nil, mapO_cons, consO_some, snapA_int, snapA_list, goD_some]
  rw [Call_mk E h15 _ _ rfl]
  simp only [Aa, Ab, Ac, Ad, Ae, Af, Ag, Ah, Ai, Aj, Ak, Al, Am, Ao, Ap, Aq, Ar, Au, Av, Aw, Ay, Az, Ba, Bb, Bc, Bd, Be, Bf, Bg, Bh, Bi, Bj, Bk, Bl, Bm, Bn, Bo, Bp, Bq, Br, Bs, Bt, Bv, Bw, Bx, Bz, Ca, Cb, Cc, Cd, Ce, Cf, Cg, Ch, Ci, Cj, Ck, Cl, Cm, Cn, Co, Cp, Cq, Cr, Cs, Ct, Cu, Cv, Cw, Cy, Cz, Da, Option.map_some, Db, Dc, De, Df, Dg, Dh, Di, Dj, Dk, Dl, Dm, Dn, Dp, Dq, Dr, Dt, Du, Dv, Dw, Dx, Dy, Dz, Ea, Eb, Ec, Ed, Ee, Ef, Eg, Eh, Ei, Ej, Ek, El, Em, Eo, Ep, Er, Es, Et, Eu, Ev, Ew, Ey, Ez, Fa, Fb, Fc, Fe, Ff, Fg, Fh, Fj, Fl, Fm, Fp, Fq, Fs, Ft, Fu, Fv, Fw, Fx, Nat.reduceEqDiff, Nat.reduceAdd, Nat.reduceMul, Nat.reduceLT, Nat.reduceLeDiff, ↓reduceIte, Lw, Lx, Nat.reduceBEq, Ly, Ma, Mb, Mc, reduceCtorEq, Md, Me, Fy, Fz, Ga, Gb, Gc, Gd, Ge, Gf, Gg, Gh, Gi, Gj, Gk, Gl, Gm, Gn, Gp, Gq, Gr, Gs, Gt, Gu, Gv, Gw, Gx, Gy, Gz, Ha, Hb, Hc, Hd, He, Hf, Hg, Hh, Hj, Hk, Hl, Hm, Hn, Ho, Hq, Hr, Hs, Ht, Hu, Hv, Hw, Hy, Hz, Ia, Ib, Ic, Ie, Ig, Ih, Ii, Ij, Ik, Il, Im, Io, Ip, Iq, Ir, Iu, Iv, Iw, Iy, Iz, Ja, Jb, Jc, Jd, Je, Jf, Jg, Jh, Ji, Jj, Jk, Jl, Jm, Jn, Jo, Jp, Jq, Jr, Js, Jt, Ju, Jv, Jw, Jy, Jz, Ka, Kb, Kc, Ke, Kf, Kg, Kh, Ki, Kj, Kk, Kl, Km, Kn, Ko, Kq, Kr, Ks, Kt, Ku, Kv, Kw, Kx, Ky, Kz, and_self, true_and, and_true, Mf, Mg, Mh, Mi, Mj, Mk, Ml, Mm, Mn, Mo, Mp, Mq, Mr, Ms, Int.reduceToNat, Int.reduceLT, Int.reduceEq, Int.reduceLE, List.getElem?_cons_zero, List.getElem?_cons_succ, La, Lb, Lc, Mt, Mu, Mv, Mw, gt_iff_lt, ge_iff_le, Ld, Le, Lf, Lg, Lh, Li, Mx, My, Lj, Ll, Lm, Ln, Lp, Lr, Ls, Lt, Lu, Lv, Mz, Na, i64s_len]
  have hloop := loop15 (E := E) t f p l hl (.rows false 4 [.agg [.int .u32 0, .int .u32 0, .int .u32 0, .int .u32 0]]) l.length 0 [] (by omega) (by simp) (by omega)
  simp only [Int.cast_ofNat_Int, List.drop_zero, List.nil_append] at hloop
  rw [show growS [] (u32s []) = .list true true [] from rfl, show growH [] 1 (u32s []) = [] from rfl] at hloop
  rw [hloop]
  have hw := fun hp' => d_words14 h25 h9 h14 t (u32s (l.flatMap numW)).isEmpty (u32s (l.flatMap numW)).isEmpty (l.flatMap numW) (by rw [numW_len]; omega) hp'
  have hcall : deepE E (Call E) 14 [.int .u32 t, growS [] (u32s (l.flatMap numW))] (growH [] 1 (u32s (l.flatMap numW))) = some (words t (l.flatMap numW)).s := by
    rw [← hw [], deep_code h14 rfl, deep_code h14 rfl, deep_go, deep_go]
    simp only [mapO_nil, mapO_cons, consO_some, snapA_int, snapA_list, snapA_grow (u32s_atom _)]
  simp only [Aa, Ab, Ac, Ad, Ae, Af, Ag, Ah, Ai, Aj, Ak, Al, Am, Ao, Ap, Aq, Ar, Au, Av, Aw, Ay, Az, Ba, Bb, Bc, Bd, Be, Bf, Bg, Bh, Bi, Bj, Bk, Bl, Bm, Bn, Bo, Bp, Bq, Br, Bs, Bt, Bv, Bw, Bx, Bz, Ca, Cb, Cc, Cd, Ce, Cf, Cg, Ch, Ci, Cj, Ck, Cl, Cm, Cn, Co, Cp, Cq, Cr, Cs, Ct, Cu, Cv, Cw, Cy, Cz, Da, Option.map_some, Db, Dc, De, Df, Dg, Dh, Di, Dj, Dk, Dl, Dm, Dn, Dp, Dq, Dr, Dt, Du, Dv, Dw, Dx, Dy, Dz, Ea, Eb, Ec, Ed, Ee, Ef, Eg, Eh, Ei, Ej, Ek, El, Em, Eo, Ep, Er, Es, Et, Eu, Ev, Ew, Ey, Ez, Fa, Fb, Fc, Fe, Ff, Fg, Fh, Fj, Fl, Fm, Fp, Fq, Fs, Ft, Fu, Fv, Fw, Fx, Nat.reduceEqDiff, Nat.reduceAdd, Nat.reduceMul, Nat.reduceLT, Nat.reduceLeDiff, ↓reduceIte, Lw, Lx, Nat.reduceBEq, Ly, Ma, Mb, Mc, reduceCtorEq, Md, Me, Fy, Fz, Ga, Gb, Gc, Gd, Ge, Gf, Gg, Gh, Gi, Gj, Gk, Gl, Gm, Gn, Gp, Gq, Gr, Gs, Gt, Gu, Gv, Gw, Gx, Gy, Gz, Ha, Hb, Hc, Hd, He, Hf, Hg, Hh, Hj, Hk, Hl, Hm, Hn, Ho, Hq, Hr, Hs, Ht, Hu, Hv, Hw, Hy, Hz, Ia, Ib, Ic, Ie, Ig, Ih, Ii, Ij, Ik, Il, Im, Io, Ip, Iq, Ir, Iu, Iv, Iw, Iy, Iz, Ja, Jb, Jc, Jd, Je, Jf, Jg, Jh, Ji, Jj, Jk, Jl, Jm, Jn, Jo, Jp, Jq, Jr, Js, Jt, Ju, Jv, Jw, Jy, Jz, Ka, Kb, Kc, Ke, Kf, Kg, Kh, Ki, Kj, Kk, Kl, Km, Kn, Ko, Kq, Kr, Ks, Kt, Ku, Kv, Kw, Kx, Ky, Kz, and_self, true_and, and_true, Mf, Mg, Mh, Mi, Mj, Mk, Ml, Mm, Mn, Mo, Mp, Mq, Mr, Ms, Int.reduceToNat, Int.reduceLT, Int.reduceEq, Int.reduceLE, List.getElem?_cons_zero, List.getElem?_cons_succ, La, Lb, Lc, Mt, Mu, Mv, Mw, gt_iff_lt, ge_iff_le, Ld, Le, Lf, Lg, Lh, Li, Mx, My, Lj, Ll, Lm, Ln, Lp, Lr, Ls, Lt, Lu, Lv, Mz, Na, op_call_deep _ _ h14 rfl, hcall, Q.s]

end Go.Proofs.Ytepedjncjehmgaa.Sim
namespace Go.Proofs.Ytepedjncjehmgaa.Sim
set_option linter.unusedSimpArgs false
set_option linter.unusedVariables false
open Go
set_option maxRecDepth 100000
set_option linter.unusedSimpArgs false

/-- The words of a text: byte by byte. -/
def bw : List UInt8 → Nat → List Int → List Int
  | [], _, ws => ws
  | b :: r, i, ws => bw r (i + 1) (ws.set (i / 4) (ibit .or .u32 (ws.getD (i / 4) 0) (ishl .u32 (IntKind.u32.wrap b.toNat) (8 * (i % 4)))))

theorem u32s_set (ws : List Int) (j : Nat) (v : Int) : (u32s ws).set j (.int .u32 v) = u32s (ws.set j v) := by simp [u32s, List.map_set]

theorem loop17 {E : Env} (t : Int) (s : List UInt8) (hl : s.length ≤ 1000) (b4 : Blk) : ∀ (n k : Nat) (ws : List Int) (m : Nat), s.length ≤ k + n → ws.length = m → s.length ≤ 4 * m →
    blockR 0 [0, 1, 4, 5] (loopR E [0, 1, 4, 5, 13, 14] l17_0 ⟨[(0, .int .u32 t), (1, .str s), (4, .loc 4 0), (5, .own 0 m 0 m), (13, .int .i64 s.length), (14, .int .i64 k)], [(4, b4)], [.rows false 1 (u32s ws)]⟩) =
      some (.norm, ⟨[(0, .int .u32 t), (1, .str s), (4, .loc 4 0), (5, .own 0 m 0 m)], [(4, b4)], [.rows false 1 (u32s (bw (s.drop k) k ws))]⟩) := by
  intro n
  induction n with
  | zero =>
    intro k ws m hk hm hs
    have h1 : ¬ (k : Int) < (s.length : Int) := by omega
    rw [loopR]
    conv => lhs; arg 3; arg 1; rw [l17_0]
    simp only [Aa, Ab, Ac, Ad, Ae, Af, Ag, Ah, Ai, Aj, Ak, Al, Am, Ao, Ap, Aq, Ar, Au, Av, Aw, Ay, Az, Ba, Bb, Bc, Bd, Be, Bf, Bg, Bh, Bi, Bj, Bk, Bl, Bm, Bn, Bo, Bp, Bq, Br, Bs, Bt, Bv, Bw, Bx, Bz, Ca, Cb, Cc, Cd, Ce, Cf, Cg, Ch, Ci, Cj, Ck, Cl, Cm, Cn, Co, Cp, Cq, Cr, Cs, Ct, Cu, Cv, Cw, Cy, Cz, Da, Option.map_some, Db, Dc, De, Df, Dg, Dh, Di, Dj, Dk, Dl, Dm, Dn, Dp, Dq, Dr, Dt, Du, Dv, Dw, Dx, Dy, Dz, Ea, Eb, Ec, Ed, Ee, Ef, Eg, Eh, Ei, Ej, Ek, El, Em, Eo, Ep, Er, Es, Et, Eu, Ev, Ew, Ey, Ez, Fa, Fb, Fc, Fe, Ff, Fg, Fh, Fj, Fl, Fm, Fp, Fq, Fs, Ft, Fu, Fv, Fw, Fx, Nat.reduceEqDiff, Nat.reduceAdd, Nat.reduceMul, Nat.reduceLT, Nat.reduceLeDiff, ↓reduceIte, Lw, Lx, Nat.reduceBEq, Ly, Ma, Mb, Mc, reduceCtorEq, Md, Me, Fy, Fz, Ga, Gb, Gc, Gd, Ge, Gf, Gg, Gh, Gi, Gj, Gk, Gl, Gm, Gn, Gp, Gq, Gr, Gs, Gt, Gu, Gv, Gw, Gx, Gy, Gz, Ha, Hb, Hc, Hd, He, Hf, Hg, Hh, Hj, Hk, Hl, Hm, Hn, Ho, Hq, Hr, Hs, Ht, Hu, Hv, Hw, Hy, Hz, Ia, Ib, Ic, Ie, Ig, Ih, Ii, Ij, Ik, Il, Im, Io, Ip, Iq, Ir, Iu, Iv, Iw, Iy, Iz, Ja, Jb, Jc, Jd, Je, Jf, Jg, Jh, Ji, Jj, Jk, Jl, Jm, Jn, Jo, Jp, Jq, Jr, Js, Jt, Ju, Jv, Jw, Jy, Jz, Ka, Kb, Kc, Ke, Kf, Kg, Kh, Ki, Kj, Kk, Kl, Km, Kn, Ko, Kq, Kr, Ks, Kt, Ku, Kv, Kw, Kx, Ky, Kz, and_self, true_and, and_true, Mf, Mg, Mh, Mi, Mj, Mk, Ml, Mm, Mn, Mo, Mp, Mq, Mr, Ms, Int.reduceToNat, Int.reduceLT, Int.reduceEq, Int.reduceLE, List.getElem?_cons_zero, List.getElem?_cons_succ, La, Lb, Lc, Mt, Mu, Mv, Mw, gt_iff_lt, ge_iff_le, Ld, Le, Lf, Lg, Lh, Li, Mx, My, Lj, Ll, Lm, Ln, Lp, Lr, Ls, Lt, Lu, Lv, Mz, Na, h1, decide_false]
    rw [List.drop_eq_nil_of_le (by omega)]
    rfl
  | succ n ih =>
    intro k ws m hk hm hs
    by_cases h : k < s.length
    · have h1 : (k : Int) < (s.length : Int) := by omega
      have hx : s[k]? = some s[k] := List.getElem?_eq_getElem h
      have hj : k / 4 < ws.length := by omega
      have hy := u32s_get (List.getElem?_eq_getElem hj)
      have hgd : ws.getD (k / 4) 0 = ws[k / 4] := by simp [List.getD, hj]
      have hw1 : IntKind.i64.wrap ((k : Int) + 1) = ((k + 1 : Nat) : Int) := wrap_i64 (by omega) (by omega)
      have hq : IntKind.i64.wrap ((k : Int).tdiv 4) = ((k / 4 : Nat) : Int) := by
        rw [show (k : Int).tdiv 4 = ((k / 4 : Nat) : Int) from rfl]
        exact wrap_i64 (by omega) (by omega)
      have hr : (k : Int).tmod 4 = ((k % 4 : Nat) : Int) := rfl
      have h8 : IntKind.i64.wrap (8 * ((k % 4 : Nat) : Int)) = ((8 * (k % 4) : Nat) : Int) := by
        rw [show 8 * ((k % 4 : Nat) : Int) = ((8 * (k % 4) : Nat) : Int) by simp]
        exact wrap_i64 (by omega) (by omega)
      have h9 : ¬ ((8 * (k % 4) : Nat) : Int) < 0 := by omega
      have hlt : ((k / 4 : Nat) : Int) < (m : Int) := by omega
      have ih' := ih (k + 1) (ws.set (k / 4) (ibit .or .u32 ws[k / 4] (ishl .u32 (IntKind.u32.wrap s[k].toNat) (8 * (k % 4))))) m (by omega) (by simpa using hm) hs
      rw [loopR]
      conv => lhs; arg 3; arg 1; rw [l17_0]
      rw [List.drop_eq_getElem_cons h, bw, hgd]
      simp only [Aa, Ab, Ac, Ad, Ae, Af, Ag, Ah, Ai, Aj, Ak, Al, Am, Ao, Ap, Aq, Ar, Au, Av, Aw, Ay, Az, Ba, Bb, Bc, Bd, Be, Bf, Bg, Bh, Bi, Bj, Bk, Bl, Bm, Bn, Bo, Bp, Bq, Br, Bs, Bt, Bv, Bw, Bx, Bz, Ca, Cb, Cc, Cd, Ce, Cf, Cg, Ch, Ci, Cj, Ck, Cl, Cm, Cn, Co, Cp, Cq, Cr, Cs, Ct, Cu, Cv, Cw, Cy, Cz, Da, Option.map_some, Db, Dc, De, Df, Dg, Dh, Di, Dj, Dk, Dl, Dm, Dn, Dp, Dq, Dr, Dt, Du, Dv, Dw, Dx, Dy, Dz, Ea, Eb, Ec, Ed, Ee, Ef, Eg, Eh, Ei, Ej, Ek, El, Em, Eo, Ep, Er, Es, Et, Eu, Ev, Ew, Ey, Ez, Fa, Fb, Fc, Fe, Ff, Fg, Fh, Fj, Fl, Fm, Fp, Fq, Fs, Ft, Fu, Fv, Fw, Fx, Nat.reduceEqDiff, Nat.reduceAdd, Nat.reduceMul, Nat.reduceLT, Nat.reduceLeDiff, ↓reduceIte, Lw, Lx, Nat.reduceBEq, Ly, Ma, Mb, Mc, reduceCtorEq, Md, Me, Fy, Fz, Ga, Gb, Gc, Gd, Ge, Gf, Gg, Gh, Gi, Gj, Gk, Gl, Gm, Gn, Gp, Gq, Gr, Gs, Gt, Gu, Gv, Gw, Gx, Gy, Gz, Ha, Hb, Hc, Hd, He, Hf, Hg, Hh, Hj, Hk, Hl, Hm, Hn, Ho, Hq, Hr, Hs, Ht, Hu, Hv, Hw, Hy, Hz, Ia, Ib, Ic, Ie, Ig, Ih, Ii, Ij, Ik, Il, Im, Io, Ip, Iq, Ir, Iu, Iv, Iw, Iy, Iz, Ja, Jb, Jc, Jd, Je, Jf, Jg, Jh, Ji, Jj, Jk, Jl, Jm, Jn, Jo, Jp, Jq, Jr, Js, Jt, Ju, Jv, Jw, Jy, Jz, Ka, Kb, Kc, Ke, Kf, Kg, Kh, Ki, Kj, Kk, Kl, Km, Kn, Ko, Kq, Kr, Ks, Kt, Ku, Kv, Kw, Kx, Ky, Kz, and_self, true_and, and_true, Mf, Mg, Mh, Mi, Mj, Mk, Ml, Mm, Mn, Mo, Mp, Mq, Mr, Ms, Int.reduceToNat, Int.reduceLT, Int.reduceEq, Int.reduceLE, List.getElem?_cons_zero, List.getElem?_cons_succ, La, Lb, Lc, Mt, Mu, Mv, Mw, gt_iff_lt, ge_iff_le, Ld, Le, Lf, Lg, Lh, Li, Mx, My, Lj, Ll, Lm, Ln, Lp, Lr, Ls, Lt, Lu, Lv, Mz, Na, h1, decide_true, rd17_0, d17_0, binS_quo, binS_rem, hx, hy, hq, hr, h8, h9, hlt, hw1, u32s_len, hm, u32s_set]
      exact ih'
    · have h1 : ¬ (k : Int) < (s.length : Int) := by omega
      rw [loopR]
      conv => lhs; arg 3; arg 1; rw [l17_0]
      simp only [Aa, Ab, Ac, Ad, Ae, Af, Ag, Ah, Ai, Aj, Ak, Al, Am, Ao, Ap, Aq, Ar, Au, Av, Aw, Ay, Az, Ba, Bb, Bc, Bd, Be, Bf, Bg, Bh, Bi, Bj, Bk, Bl, Bm, Bn, Bo, Bp, Bq, Br, Bs, Bt, Bv, Bw, Bx, Bz, Ca, Cb, Cc, Cd, Ce, Cf, Cg, Ch, Ci, Cj, Ck, Cl, Cm, Cn, Co, Cp, Cq, Cr, Cs, Ct, Cu, Cv, Cw, Cy, Cz, Da, Option.map_some, Db, Dc, De, Df, Dg, Dh, Di, Dj, Dk, Dl, Dm, Dn, Dp, Dq, Dr, Dt, Du, Dv, Dw, Dx, Dy, Dz, Ea, Eb, Ec, Ed, Ee, Ef, Eg, Eh, Ei, Ej, Ek, El, Em, Eo, Ep, Er, Es, Et, Eu, Ev, Ew, Ey, Ez, Fa, Fb, Fc, Fe, Ff, Fg, Fh, Fj, Fl, Fm, Fp, Fq, Fs, Ft, Fu, Fv, Fw, Fx, Nat.reduceEqDiff, Nat.reduceAdd, Nat.reduceMul, Nat.reduceLT, Nat.reduceLeDiff, ↓reduceIte, Lw, Lx, Nat.reduceBEq, Ly, Ma, Mb, Mc, reduceCtorEq, Md, Me, Fy, Fz, Ga, Gb, Gc, Gd, Ge, Gf, Gg, Gh, Gi, Gj, Gk, Gl, Gm, Gn, Gp, Gq, Gr, Gs, Gt, Gu, Gv, Gw, Gx, Gy, Gz, Ha, Hb, Hc, Hd, He, Hf, Hg, Hh, Hj, Hk, Hl, Hm, Hn, Ho, Hq, Hr, Hs, Ht, Hu, Hv, Hw, Hy, Hz, Ia, Ib, Ic, Ie, Ig, Ih, Ii, Ij, Ik, Il, Im, Io, Ip, Iq, Ir, Iu, Iv, Iw, Iy, Iz, Ja, Jb, Jc, Jd, Je, Jf, Jg, Jh, Ji, Jj, Jk, Jl, Jm, Jn, Jo, Jp, Jq, Jr, Js, Jt, Ju, Jv, Jw, Jy, Jz, Ka, Kb, Kc, Ke, Kf, Kg, Kh, Ki, Kj, Kk, Kl, Km, Kn, Ko, Kq, Kr, Ks, Kt, Ku, Kv, Kw, Kx, Ky, Kz, and_self, true_and, and_true, Mf, Mg, Mh, Mi, Mj, Mk, Ml, Mm, Mn, Mo, Mp, Mq, Mr, Ms, Int.reduceToNat, Int.reduceLT, Int.reduceEq, Int.reduceLE, List.getElem?_cons_zero, List.getElem?_cons_succ, La, Lb, Lc, Mt, Mu, Mv, Mw, gt_iff_lt, ge_iff_le, Ld, Le, Lf, Lg, Lh, Li, Mx, My, Lj, Ll, Lm, Ln, Lp, Lr, Ls, Lt, Lu, Lv, Mz, Na, h1, decide_false]
      rw [List.drop_eq_nil_of_le (by omega)]
      rfl

theorem bw_len : ∀ (s : List UInt8) (i : Nat) (ws : List Int), (bw s i ws).length = ws.length
  | [], _, _ => rfl
  | b :: r, i, ws => by rw [bw, bw_len r]; simp

/-- All words of a text. -/
def textW (s : List UInt8) : List Int := bw s 0 (List.replicate ((s.length + 3) / 4) 0) ++ [IntKind.u32.wrap s.length]

theorem u32s_rep (n : Nat) : List.replicate n (S.int .u32 0) = u32s (List.replicate n 0) := by simp [u32s]

theorem d_bytes17 {E : Env} (h25 : E 25 = some (.code c25)) (h9 : E 9 = some (.code c9)) (h14 : E 14 = some (.code c14)) (h17 : E 17 = some (.code c17)) (t : Int) (s : List UInt8) (hl : s.length ≤ 1000) (hp : Hp) :
    deepE E (Call E) 17 [.int .u32 t, .str s] hp = some (words t (textW s)).s := by
  rw [deep_code h17 rfl, deep_go]
  simp only [mapO_nil, mapO_cons, consO_some, snapA_int, snapA_str, goD_some]
  rw [Call_mk E h17 _ _ rfl]
  have hw1 : IntKind.i64.wrap ((s.length : Int) + 3) = ((s.length + 3 : Nat) : Int) := wrap_i64 (by omega) (by omega)
  have hq : IntKind.i64.wrap (((s.length + 3 : Nat) : Int).tdiv 4) = (((s.length + 3) / 4 : Nat) : Int) := by
    rw [show ((s.length + 3 : Nat) : Int).tdiv 4 = (((s.length + 3) / 4 : Nat) : Int) from rfl]
    exact wrap_i64 (by omega) (by omega)
  have hm1 : ((((s.length + 3) / 4 : Nat) : Int)) * 4 ≤ 140737488351232 := by omega
  have hm2 : ((((s.length + 3) / 4 : Nat) : Int)) ≤ 4611686018427387904 := by omega
  simp only [Aa, Ab, Ac, Ad, Ae, Af, Ag, Ah, Ai, Aj, Ak, Al, Am, Ao, Ap, Aq, Ar, Au, Av, Aw, Ay, Az, Ba, Bb, Bc, Bd, Be, Bf, Bg, Bh, Bi, Bj, Bk, Bl, Bm, Bn, Bo, Bp, Bq, Br, Bs, Bt, Bv, Bw, Bx, Bz, Ca, Cb, Cc, Cd, Ce, Cf, Cg, Ch, Ci, Cj, Ck, Cl, Cm, Cn, Co, Cp, Cq, Cr, Cs, Ct, Cu, Cv, Cw, Cy, Cz, Da, Option.map_some, Db, Dc, De, Df, Dg, Dh, Di, Dj, Dk, Dl, Dm, Dn, Dp, Dq, Dr, Dt, Du, Dv, Dw, Dx, Dy, Dz, Ea, Eb, Ec, Ed, Ee, Ef, Eg, Eh, Ei, Ej, Ek, El, Em, Eo, Ep, Er, Es, Et, Eu, Ev, Ew, Ey, Ez, Fa, Fb, Fc, Fe, Ff, Fg, Fh, Fj, Fl, Fm, Fp, Fq, Fs, Ft, Fu, Fv, Fw, Fx, Nat.reduceEqDiff, Nat.reduceAdd, Nat.reduceMul, Nat.reduceLT, Nat.reduceLeDiff, ↓reduceIte, Lw, Lx, Nat.reduceBEq, Ly, Ma, Mb, Mc, reduceCtorEq, Md, Me, Fy, Fz, Ga, Gb, Gc, Gd, Ge, Gf, Gg, Gh, Gi, Gj, Gk, Gl, Gm, Gn, Gp, Gq, Gr, Gs, Gt, Gu, Gv, Gw, Gx, Gy, Gz, Ha, Hb, Hc, Hd, He, Hf, Hg, Hh, Hj, Hk, Hl, Hm, Hn, Ho, Hq, Hr, Hs, Ht, Hu, Hv, Hw, Hy, Hz, Ia, Ib, Ic, Ie, Ig, Ih, Ii, Ij, Ik, Il, Im, Io, Ip, Iq, Ir, Iu, Iv, Iw, Iy, Iz, Ja, Jb, Jc, Jd, Je, Jf, Jg, Jh, Ji, Jj, Jk, Jl, Jm, Jn, Jo, Jp, Jq, Jr, Js, Jt, Ju, Jv, Jw, Jy, Jz, Ka, Kb, Kc, Ke, Kf, Kg, Kh, Ki, Kj, Kk, Kl, Km, Kn, Ko, Kq, Kr, Ks, Kt, Ku, Kv, Kw, Kx, Ky, Kz, and_self, true_and, and_true, Mf, Mg, Mh, Mi, Mj, Mk, Ml, Mm, Mn, Mo, Mp, Mq, Mr, Ms, Int.reduceToNat, Int.reduceLT, Int.reduceEq, Int.reduceLE, List.getElem?_cons_zero, List.getElem?_cons_succ, La, Lb, Lc, Mt, Mu, Mv, Mw, gt_iff_lt, ge_iff_le, Ld, Le, Lf, Lg, Lh, Li, Mx, My, Lj, Ll, Lm, Ln, Lp, Lr, Ls, Lt, Lu, Lv, Mz, Na, hw1, binS_quo, hq, mkslR_int, hm1, hm2, u32s_rep, List.nil_append]
  have hloop := loop17 (E := E) t s hl (.rows false 4 [.agg [.int .u32 0, .int .u32 0, .int .u32 0, .int .u32 0]]) s.length 0 (List.replicate ((s.length + 3) / 4) 0) ((s.length + 3) / 4) (by omega) (by simp) (by omega)
  simp only [Int.cast_ofNat_Int, List.drop_zero] at hloop
  rw [hloop]
  have hlen : (bw s 0 (List.replicate ((s.length + 3) / 4) 0)).length = (s.length + 3) / 4 := by rw [bw_len]; simp
  have hap := fun (d : Nat) (os : List KO) (fr : Fr) (vars : Vars) => app_exact (E := E) (C := Call E) (d := d) (os := os) (fr := fr) (vars := vars) (H := [.rows false 1 (u32s (bw s 0 (List.replicate ((s.length + 3) / 4) 0)))]) (l := 0) (n := (s.length + 3) / 4) (esz := 1) (bytes := 4)
    (xs := u32s (bw s 0 (List.replicate ((s.length + 3) / 4) 0))) (f := true) (p := true) (ys := [.int .u32 (IntKind.u32.wrap s.length)]) rfl (by rw [u32s_len, hlen]) rfl (by simp [u32s_len, hlen, okLen]; omega) (by simp)
  have htw : u32s (bw s 0 (List.replicate ((s.length + 3) / 4) 0)) ++ [.int .u32 (IntKind.u32.wrap s.length)] = u32s (textW s) := by rw [textW, u32s_app]; rfl
  have htl : (textW s).length = (s.length + 3) / 4 + 1 := by simp [textW, hlen]
  simp only [htw, u32s_len, hlen, List.length_cons, List.length_nil, Nat.zero_add, List.cons_append, List.nil_append] at hap
  have hcall : deepE E (Call E) 14 [.int .u32 t, .own 1 ((s.length + 3) / 4 + 1) 0 ((s.length + 3) / 4 + 1)] [.rows false 1 (u32s (bw s 0 (List.replicate ((s.length + 3) / 4) 0))), .rows true 1 (u32s (textW s))] = some (words t (textW s)).s := by
    rw [← d_words14 h25 h9 h14 t false false (textW s) (by omega) [], deep_code h14 rfl, deep_code h14 rfl, deep_go, deep_go]
    rw [mapO_cons, mapO_cons, snapA_last (l := 1) (xs := u32s (textW s)) rfl (by rw [u32s_len, htl]) (u32s_atom _)]
    simp only [mapO_nil, mapO_cons, consO_some, snapA_int, snapA_list]
  simp only [Aa, Ab, Ac, Ad, Ae, Af, Ag, Ah, Ai, Aj, Ak, Al, Am, Ao, Ap, Aq, Ar, Au, Av, Aw, Ay, Az, Ba, Bb, Bc, Bd, Be, Bf, Bg, Bh, Bi, Bj, Bk, Bl, Bm, Bn, Bo, Bp, Bq, Br, Bs, Bt, Bv, Bw, Bx, Bz, Ca, Cb, Cc, Cd, Ce, Cf, Cg, Ch, Ci, Cj, Ck, Cl, Cm, Cn, Co, Cp, Cq, Cr, Cs, Ct, Cu, Cv, Cw, Cy, Cz, Da, Option.map_some, Db, Dc, De, Df, Dg, Dh, Di, Dj, Dk, Dl, Dm, Dn, Dp, Dq, Dr, Dt, Du, Dv, Dw, Dx, Dy, Dz, Ea, Eb, Ec, Ed, Ee, Ef, Eg, Eh, Ei, Ej, Ek, El, Em, Eo, Ep, Er, Es, Et, Eu, Ev, Ew, Ey, Ez, Fa, Fb, Fc, Fe, Ff, Fg, Fh, Fj, Fl, Fm, Fp, Fq, Fs, Ft, Fu, Fv, Fw, Fx, Nat.reduceEqDiff, Nat.reduceAdd, Nat.reduceMul, Nat.reduceLT, Nat.reduceLeDiff, ↓reduceIte, Lw, Lx, Nat.reduceBEq, Ly, Ma, Mb, Mc, reduceCtorEq, Md, Me, Fy, Fz, Ga, Gb, Gc, Gd, Ge, Gf, Gg, Gh, Gi, Gj, Gk, Gl, Gm, Gn, Gp, Gq, Gr, Gs, Gt, Gu, Gv, Gw, Gx, Gy, Gz, Ha, Hb, Hc, Hd, He, Hf, Hg, Hh, Hj, Hk, Hl, Hm, Hn, Ho, Hq, Hr, Hs, Ht, Hu, Hv, Hw, Hy, Hz, Ia, Ib, Ic, Ie, Ig, Ih, Ii, Ij, Ik, Il, Im, Io, Ip, Iq, Ir, Iu, Iv, Iw, Iy, Iz, Ja, Jb, Jc, Jd, Je, Jf, Jg, Jh, Ji, Jj, Jk, Jl, Jm, Jn, Jo, Jp, Jq, Jr, Js, Jt, Ju, Jv, Jw, Jy, Jz, Ka, Kb, Kc, Ke, Kf, Kg, Kh, Ki, Kj, Kk, Kl, Km, Kn, Ko, Kq, Kr, Ks, Kt, Ku, Kv, Kw, Kx, Ky, Kz, and_self, true_and, and_true, Mf, Mg, Mh, Mi, Mj, Mk, Ml, Mm, Mn, Mo, Mp, Mq, Mr, Ms, Int.reduceToNat, Int.reduceLT, Int.reduceEq, Int.reduceLE, List.getElem?_cons_zero, List.getElem?_cons_succ, La, Lb, Lc, Mt, Mu, Mv, Mw, gt_iff_lt, ge_iff_le, Ld, Le, Lf, Lg, Lh, Li, Mx, My, Lj, Ll, Lm, Ln, Lp, Lr, Ls, Lt, Lu, Lv, Mz, Na, hap, op_call_deep _ _ h14 rfl, hcall, Q.s]

end Go.Proofs.Ytepedjncjehmgaa.Sim
namespace Go.Proofs.Ytepedjncjehmgaa.Sim
set_option linter.unusedSimpArgs false
set_option linter.unusedVariables false
open Go
set_option maxRecDepth 100000
set_option linter.unusedSimpArgs false

theorem or_nat (a b : Nat) (ha : a < 4294967296) (hb : b < 4294967296) : ibit .or .u32 (a : Int) (b : Int) = ((a ||| b : Nat) : Int) := by
  unfold ibit
  have h32 : IntKind.u32.bits = 32 := rfl
  have e : ∀ n : Nat, n < 4294967296 → (BitVec.ofInt IntKind.u32.bits (n : Int)).toNat = n := by
    intro n hn
    rw [h32]
    simp [BitVec.toNat_ofNat]
    omega
  have ho : a ||| b < 2 ^ 32 := Nat.or_lt_two_pow (by omega) (by omega)
  simp only [BitVec.toNat_or, e a ha, e b hb]
  exact wrap_u32 (by omega) (by omega)
theorem or_hi (a b r : Nat) (ha : a < 2 ^ r) (hb : 2 ^ r * b + a < 4294967296) : ibit .or .u32 ((2 ^ r * b : Nat) : Int) (a : Int) = ((2 ^ r * b + a : Nat) : Int) := by
  rw [or_nat _ _ (by omega) (by omega), Nat.two_pow_add_eq_or_of_lt ha]
theorem or_lo (a b r : Nat) (ha : a < 2 ^ r) (hb : 2 ^ r * b + a < 4294967296) : ibit .or .u32 (a : Int) ((2 ^ r * b : Nat) : Int) = ((2 ^ r * b + a : Nat) : Int) := by
  rw [or_nat _ _ (by omega) (by omega), Nat.or_comm, Nat.two_pow_add_eq_or_of_lt ha]
theorem ishl_nat (a n : Nat) (hn : n ≤ 32) (h : a * 2 ^ n < 4294967296) : ishl .u32 (a : Int) n = ((2 ^ n * a : Nat) : Int) := by
  unfold ishl
  have h32 : IntKind.u32.bits = 32 := rfl
  rw [h32, Nat.min_eq_left hn]
  have e : (a : Int) * 2 ^ n = ((2 ^ n * a : Nat) : Int) := by rw [Nat.mul_comm]; simp
  rw [e]
  rw [Nat.mul_comm] at h
  exact wrap_u32 (by omega) (by omega)

/-- a byte, none behind the end -/
def yb (s : List UInt8) (i : Nat) : Nat := (s.getD i 0).toNat
theorem yb_lt (s : List UInt8) (i : Nat) : yb s i < 256 := UInt8.toNat_lt _
def word (s : List UInt8) (j : Nat) : Nat := yb s (4 * j) + 256 * yb s (4 * j + 1) + 65536 * yb s (4 * j + 2) + 16777216 * yb s (4 * j + 3)
def M (s : List UInt8) (c : Nat) : List Int := (List.range c).map fun j => (word s j : Int)

/-- What byte by byte has come in, up to byte k. -/
def part (s : List UInt8) (k j : Nat) : Nat := (if 4 * j < k then yb s (4 * j) else 0) + 256 * (if 4 * j + 1 < k then yb s (4 * j + 1) else 0) + 65536 * (if 4 * j + 2 < k then yb s (4 * j + 2) else 0) + 16777216 * (if 4 * j + 3 < k then yb s (4 * j + 3) else 0)

theorem part_step (s : List UInt8) (k : Nat) (hk : k < s.length) : ibit .or .u32 (part s k (k / 4) : Int) (ishl .u32 (IntKind.u32.wrap (s[k].toNat : Int)) (8 * (k % 4))) = (part s (k + 1) (k / 4) : Int) := by
  have hb : s[k].toNat = yb s k := by simp [yb, List.getD, hk]
  have h0 := yb_lt s k
  have y0 := yb_lt s (4 * (k / 4)); have y1 := yb_lt s (4 * (k / 4) + 1); have y2 := yb_lt s (4 * (k / 4) + 2); have y3 := yb_lt s (4 * (k / 4) + 3)
  rw [hb, wrap_u32 (by omega) (by omega)]
  have hr : k % 4 = 0 ∨ k % 4 = 1 ∨ k % 4 = 2 ∨ k % 4 = 3 := by omega
  rcases hr with hr | hr | hr | hr
  · have e : k = 4 * (k / 4) := by omega
    rw [hr, ishl_nat _ _ (by omega) (by omega)]
    have p1 : part s k (k / 4) = 0 := by unfold part; rw [if_neg (by omega), if_neg (by omega), if_neg (by omega), if_neg (by omega)]
    have p2 : part s (k + 1) (k / 4) = yb s k := by unfold part; rw [if_pos (by omega), if_neg (by omega), if_neg (by omega), if_neg (by omega), ← e]; omega
    rw [p1, p2, or_nat _ _ (by omega) (by omega)]
    simp
  · have e : k = 4 * (k / 4) + 1 := by omega
    rw [hr, ishl_nat _ _ (by omega) (by omega)]
    have p1 : part s k (k / 4) = yb s (4 * (k / 4)) := by unfold part; rw [if_pos (by omega), if_neg (by omega), if_neg (by omega), if_neg (by omega)]; omega
    have p2 : part s (k + 1) (k / 4) = 2 ^ 8 * yb s k + yb s (4 * (k / 4)) := by unfold part; rw [if_pos (by omega), if_pos (by omega), if_neg (by omega), if_neg (by omega), ← e]; omega
    rw [p1, p2, or_lo _ _ 8 (by omega) (by omega)]
  · have e : k = 4 * (k / 4) + 2 := by omega
    rw [hr, ishl_nat _ _ (by omega) (by omega)]
    have p1 : part s k (k / 4) = yb s (4 * (k / 4)) + 256 * yb s (4 * (k / 4) + 1) := by unfold part; rw [if_pos (by omega), if_pos (by omega), if_neg (by omega), if_neg (by omega)]; omega
    have p2 : part s (k + 1) (k / 4) = 2 ^ 16 * yb s k + (yb s (4 * (k / 4)) + 256 * yb s (4 * (k / 4) + 1)) := by unfold part; rw [if_pos (by omega), if_pos (by omega), if_pos (by omega), if_neg (by omega), ← e]; omega
    rw [p1, p2, or_lo _ _ 16 (by omega) (by omega)]
  · have e : k = 4 * (k / 4) + 3 := by omega
    rw [hr, ishl_nat _ _ (by omega) (by omega)]
    have p1 : part s k (k / 4) = yb s (4 * (k / 4)) + 256 * yb s (4 * (k / 4) + 1) + 65536 * yb s (4 * (k / 4) + 2) := by unfold part; rw [if_pos (by omega), if_pos (by omega), if_pos (by omega), if_neg (by omega)]; omega
    have p2 : part s (k + 1) (k / 4) = 2 ^ 24 * yb s k + (yb s (4 * (k / 4)) + 256 * yb s (4 * (k / 4) + 1) + 65536 * yb s (4 * (k / 4) + 2)) := by unfold part; rw [if_pos (by omega), if_pos (by omega), if_pos (by omega), if_pos (by omega), ← e]; omega
    rw [p1, p2, or_lo _ _ 24 (by omega) (by omega)]

theorem part_other (s : List UInt8) (k j : Nat) (h : j ≠ k / 4) : part s (k + 1) j = part s k j := by
  have c : ∀ n, n < 4 → (4 * j + n < k + 1 ↔ 4 * j + n < k) := by intro n hn; omega
  have c0 : (4 * j < k + 1 ↔ 4 * j < k) := by omega
  unfold part
  simp only [c 1 (by omega), c 2 (by omega), c 3 (by omega), c0]

theorem bw_all (s : List UInt8) (c : Nat) (hc : s.length ≤ 4 * c) : ∀ (n k : Nat), s.length ≤ k + n → k ≤ s.length → bw (s.drop k) k ((List.range c).map fun j => (part s k j : Int)) = (List.range c).map fun j => (part s s.length j : Int) := by
  intro n
  induction n with
  | zero =>
    intro k h1 h2
    have : k = s.length := by omega
    subst this
    rw [List.drop_eq_nil_of_le (Nat.le_refl _)]
    rfl
  | succ n ih =>
    intro k h1 h2
    by_cases h : k < s.length
    · rw [List.drop_eq_getElem_cons h, bw]
      have hj : k / 4 < c := by omega
      have hg : ((List.range c).map fun j => (part s k j : Int)).getD (k / 4) 0 = (part s k (k / 4) : Int) := by simp [List.getD, hj]
      rw [hg, part_step s k h]
      have hs : ((List.range c).map fun j => (part s k j : Int)).set (k / 4) (part s (k + 1) (k / 4) : Int) = (List.range c).map fun j => (part s (k + 1) j : Int) := by
        apply List.ext_getElem?
        intro i
        by_cases hi : i = k / 4
        · subst hi
          rw [List.getElem?_set_self (by simpa using hj)]
          simp [hj]
        · rw [List.getElem?_set_ne (fun e => hi e.symm)]
          by_cases hc' : i < c
          · simp [hc', part_other s k i hi]
          · simp [hc']
      rw [hs]
      exact ih (k + 1) (by omega) (by omega)
    · have : k = s.length := by omega
      subst this
      rw [List.drop_eq_nil_of_le (Nat.le_refl _)]
      rfl

theorem yb_end (s : List UInt8) (i : Nat) (h : ¬ i < s.length) : yb s i = 0 := by
  simp [yb, List.getD, h]

theorem part_end (s : List UInt8) (j : Nat) : part s s.length j = word s j := by
  have e : ∀ i, (if i < s.length then yb s i else 0) = yb s i := by
    intro i
    split
    · rfl
    · rename_i h; rw [yb_end s i h]
  unfold part word
  simp only [e]

theorem textW_M (s : List UInt8) : textW s = M s ((s.length + 3) / 4) ++ [IntKind.u32.wrap s.length] := by
  unfold textW
  have h0 : List.replicate ((s.length + 3) / 4) (0 : Int) = (List.range ((s.length + 3) / 4)).map fun j => (part s 0 j : Int) := by
    apply List.ext_getElem?
    intro i
    by_cases h : i < (s.length + 3) / 4
    · simp [h, part]
    · simp [h]
  rw [h0]
  have := bw_all s ((s.length + 3) / 4) (by omega) s.length 0 (by omega) (by omega)
  rw [List.drop_zero] at this
  rw [this]
  simp only [part_end, M]

end Go.Proofs.Ytepedjncjehmgaa.Sim
namespace Go.Proofs.Ytepedjncjehmgaa.Sim
set_option linter.unusedSimpArgs false
set_option linter.unusedVariables false
open Go
set_option maxRecDepth 100000
set_option linter.unusedSimpArgs false

def wacc (s : List UInt8) (i : Nat) : Nat → Nat → Nat
  | x, 0 => x
  | x, q + 1 => wacc s i (x * 256 + yb s (i + q)) q

theorem loop5_2 {E : Env} (n : S) (hn : ∃ f p xs, n = .list f p xs) (s : List UInt8) (hs : s.length ≤ 1000) (t : Int) (H7 H8 : Hp) (a7 a8 : List S) (i : Nat) (hi : i ≤ 1000) (hp : Hp) : ∀ (q x : Nat), q ≤ 4 → x * 256 ^ q < 4294967296 →
    blockR 4 [0, 1, 2, 7, 8, 11, 12] (loopR E [0, 1, 2, 7, 8, 11, 12, 13] l5_2 ⟨[(0, n), (1, .str s), (2, .int .u32 t), (7, growS H7 a7), (8, growS H8 a8), (11, .int .i64 i), (12, .int .u32 x), (13, .int .i64 ((q : Int) - 1))], [], hp⟩) =
      some (.norm, ⟨[(0, n), (1, .str s), (2, .int .u32 t), (7, growS H7 a7), (8, growS H8 a8), (11, .int .i64 i), (12, .int .u32 (wacc s i x q : Nat))], [], hp⟩) := by
  have hkn : ∀ ks, keep1 ks n = n := by
    intro ks
    obtain ⟨f, p, xs, rfl⟩ := hn; rfl
  intro q
  induction q with
  | zero =>
    intro x _ hx
    have h1 : ¬ (0 : Int) ≤ (0 : Int) - 1 := by decide
    rw [loopR]
    conv => lhs; arg 3; arg 1; rw [l5_2]
    simp only [Aa, Ab, Ac, Ad, Ae, Af, Ag, Ah, Ai, Aj, Ak, Al, Am, Ao, Ap, Aq, Ar, Au, Av, Aw, Ay, Az, Ba, Bb, Bc, Bd, Be, Bf, Bg, Bh, Bi, Bj, Bk, Bl, Bm, Bn, Bo, Bp, Bq, Br, Bs, Bt, Bv, Bw, Bx, Bz, Ca, Cb, Cc, Cd, Ce, Cf, Cg, Ch, Ci, Cj, Ck, Cl, Cm, Cn, Co, Cp, Cq, Cr, Cs, Ct, Cu, Cv, Cw, Cy, Cz, Da, Option.map_some, Db, Dc, De, Df, Dg, Dh, Di, Dj, Dk, Dl, Dm, Dn, Dp, Dq, Dr, Dt, Du, Dv, Dw, Dx, Dy, Dz, Ea, Eb, Ec, Ed, Ee, Ef, Eg, Eh, Ei, Ej, Ek, El, Em, Eo, Ep, Er, Es, Et, Eu, Ev, Ew, Ey, Ez, Fa, Fb, Fc, Fe, Ff, Fg, Fh, Fj, Fl, Fm, Fp, Fq, Fs, Ft, Fu, Fv, Fw, Fx, Nat.reduceEqDiff, Nat.reduceAdd, Nat.reduceMul, Nat.reduceLT, Nat.reduceLeDiff, ↓reduceIte, Lw, Lx, Nat.reduceBEq, Ly, Ma, Mb, Mc, reduceCtorEq, Md, Me, Fy, Fz, Ga, Gb, Gc, Gd, Ge, Gf, Gg, Gh, Gi, Gj, Gk, Gl, Gm, Gn, Gp, Gq, Gr, Gs, Gt, Gu, Gv, Gw, Gx, Gy, Gz, Ha, Hb, Hc, Hd, He, Hf, Hg, Hh, Hj, Hk, Hl, Hm, Hn, Ho, Hq, Hr, Hs, Ht, Hu, Hv, Hw, Hy, Hz, Ia, Ib, Ic, Ie, Ig, Ih, Ii, Ij, Ik, Il, Im, Io, Ip, Iq, Ir, Iu, Iv, Iw, Iy, Iz, Ja, Jb, Jc, Jd, Je, Jf, Jg, Jh, Ji, Jj, Jk, Jl, Jm, Jn, Jo, Jp, Jq, Jr, Js, Jt, Ju, Jv, Jw, Jy, Jz, Ka, Kb, Kc, Ke, Kf, Kg, Kh, Ki, Kj, Kk, Kl, Km, Kn, Ko, Kq, Kr, Ks, Kt, Ku, Kv, Kw, Kx, Ky, Kz, and_self, true_and, and_true, Mf, Mg, Mh, Mi, Mj, Mk, Ml, Mm, Mn, Mo, Mp, Mq, Mr, Ms, Int.reduceToNat, Int.reduceLT, Int.reduceEq, Int.reduceLE, List.getElem?_cons_zero, List.getElem?_cons_succ, La, Lb, Lc, Mt, Mu, Mv, Mw, gt_iff_lt, ge_iff_le, Ld, Le, Lf, Lg, Lh, Li, Mx, My, Lj, Ll, Lm, Ln, Lp, Lr, Ls, Lt, Lu, Lv, Mz, Na, keep1_grow, hkn, h1, decide_false, wacc]
  | succ q ih =>
    intro x hq hx
    have h1 : (0 : Int) ≤ ((q + 1 : Nat) : Int) - 1 := by omega
    have hw1 : IntKind.i64.wrap ((i : Int) + (((q + 1 : Nat) : Int) - 1)) = ((i + q : Nat) : Int) := by
      rw [show (i : Int) + (((q + 1 : Nat) : Int) - 1) = ((i + q : Nat) : Int) by omega]
      exact wrap_i64 (by omega) (by omega)
    have hw2 : IntKind.i64.wrap ((((q + 1 : Nat) : Int) - 1) - 1) = (q : Int) - 1 := by
      rw [show (((q + 1 : Nat) : Int) - 1) - 1 = (q : Int) - 1 by omega]
      exact wrap_i64 (by omega) (by omega)
    have hx8 : x * 2 ^ 8 < 4294967296 ∧ 2 ^ 8 * x + 255 < 4294967296 := by
      have h2 : x * 256 * 256 ^ q < 4294967296 := by rw [Nat.mul_assoc, ← Nat.pow_succ']; exact hx
      have h3 : 1 ≤ 256 ^ q := Nat.one_le_pow _ _ (by omega)
      have h4 : x * 256 * 1 ≤ x * 256 * 256 ^ q := Nat.mul_le_mul_left _ h3
      omega
    have hshl : ishl .u32 (x : Int) 8 = ((2 ^ 8 * x : Nat) : Int) := ishl_nat x 8 (by omega) hx8.1
    have hy := yb_lt s (i + q)
    have hnext : (x * 256 + yb s (i + q)) * 256 ^ q < 4294967296 := by
      have h2 : x * 256 * 256 ^ q < 4294967296 := by rw [Nat.mul_assoc, ← Nat.pow_succ']; exact hx
      have hdvd : 4294967296 = 256 ^ q * 256 ^ (4 - q) := by rw [← Nat.pow_add]; rw [show q + (4 - q) = 4 by omega]
      rw [Nat.mul_comm (x * 256 + _), hdvd]
      have h5 : x * 256 + yb s (i + q) < 256 ^ (4 - q) := by
        have h6 : x * 256 < 256 ^ (4 - q) := by
          rw [hdvd, Nat.mul_comm (x * 256)] at h2
          exact Nat.lt_of_mul_lt_mul_left h2
        obtain ⟨r, hr⟩ : ∃ r, 4 - q = r + 1 := ⟨3 - q, by omega⟩
        rw [hr, Nat.pow_succ] at h6 ⊢
        have h7 : x < 256 ^ r := Nat.lt_of_mul_lt_mul_right h6
        have h8 : (x + 1) * 256 ≤ 256 ^ r * 256 := Nat.mul_le_mul_right _ h7
        omega
      exact Nat.mul_lt_mul_of_pos_left h5 (Nat.pow_pos (by omega))
    have ih' := ih (x * 256 + yb s (i + q)) (by omega) hnext
    rw [loopR]
    conv => lhs; arg 3; arg 1; rw [l5_2]
    rw [wacc]
    by_cases h : i + q < s.length
    · have h2 : ((i + q : Nat) : Int) < (s.length : Int) := by omega
      have hg : s[i + q]? = some s[i + q] := List.getElem?_eq_getElem h
      have hyb : s[i + q].toNat = yb s (i + q) := by simp [yb, List.getD, h]
      have hor : ibit .or .u32 ((2 ^ 8 * x : Nat) : Int) (IntKind.u32.wrap (s[i + q].toNat : Int)) = ((x * 256 + yb s (i + q) : Nat) : Int) := by
        rw [hyb, wrap_u32 (by omega) (by omega), or_hi _ _ 8 (by omega) (by omega)]
        congr 1
        omega
      simp only [Aa, Ab, Ac, Ad, Ae, Af, Ag, Ah, Ai, Aj, Ak, Al, Am, Ao, Ap, Aq, Ar, Au, Av, Aw, Ay, Az, Ba, Bb, Bc, Bd, Be, Bf, Bg, Bh, Bi, Bj, Bk, Bl, Bm, Bn, Bo, Bp, Bq, Br, Bs, Bt, Bv, Bw, Bx, Bz, Ca, Cb, Cc, Cd, Ce, Cf, Cg, Ch, Ci, Cj, Ck, Cl, Cm, Cn, Co, Cp, Cq, Cr, Cs, Ct, Cu, Cv, Cw, Cy, Cz, Da, Option.map_some, Db, Dc, De, Df, Dg, Dh, Di, Dj, Dk, Dl, Dm, Dn, Dp, Dq, Dr, Dt, Du, Dv, Dw, Dx, Dy, Dz, Ea, Eb, Ec, Ed, Ee, Ef, Eg, Eh, Ei, Ej, Ek, El, Em, Eo, Ep, Er, Es, Et, Eu, Ev, Ew, Ey, Ez, Fa, Fb, Fc, Fe, Ff, Fg, Fh, Fj, Fl, Fm, Fp, Fq, Fs, Ft, Fu, Fv, Fw, Fx, Nat.reduceEqDiff, Nat.reduceAdd, Nat.reduceMul, Nat.reduceLT, Nat.reduceLeDiff, ↓reduceIte, Lw, Lx, Nat.reduceBEq, Ly, Ma, Mb, Mc, reduceCtorEq, Md, Me, Fy, Fz, Ga, Gb, Gc, Gd, Ge, Gf, Gg, Gh, Gi, Gj, Gk, Gl, Gm, Gn, Gp, Gq, Gr, Gs, Gt, Gu, Gv, Gw, Gx, Gy, Gz, Ha, Hb, Hc, Hd, He, Hf, Hg, Hh, Hj, Hk, Hl, Hm, Hn, Ho, Hq, Hr, Hs, Ht, Hu, Hv, Hw, Hy, Hz, Ia, Ib, Ic, Ie, Ig, Ih, Ii, Ij, Ik, Il, Im, Io, Ip, Iq, Ir, Iu, Iv, Iw, Iy, Iz, Ja, Jb, Jc, Jd, Je, Jf, Jg, Jh, Ji, Jj, Jk, Jl, Jm, Jn, Jo, Jp, Jq, Jr, Js, Jt, Ju, Jv, Jw, Jy, Jz, Ka, Kb, Kc, Ke, Kf, Kg, Kh, Ki, Kj, Kk, Kl, Km, Kn, Ko, Kq, Kr, Ks, Kt, Ku, Kv, Kw, Kx, Ky, Kz, and_self, true_and, and_true, Mf, Mg, Mh, Mi, Mj, Mk, Ml, Mm, Mn, Mo, Mp, Mq, Mr, Ms, Int.reduceToNat, Int.reduceLT, Int.reduceEq, Int.reduceLE, List.getElem?_cons_zero, List.getElem?_cons_succ, La, Lb, Lc, Mt, Mu, Mv, Mw, gt_iff_lt, ge_iff_le, Ld, Le, Lf, Lg, Lh, Li, Mx, My, Lj, Ll, Lm, Ln, Lp, Lr, Ls, Lt, Lu, Lv, Mz, Na, keep1_grow, hkn, h1, h2, decide_true, hw1, hw2, hshl, hg, hor]
      exact ih'
    · have h2 : ¬ ((i + q : Nat) : Int) < (s.length : Int) := by omega
      have hz : 2 ^ 8 * x = x * 256 + yb s (i + q) := by rw [yb_end s _ h]; omega
      simp only [Aa, Ab, Ac, Ad, Ae, Af, Ag, Ah, Ai, Aj, Ak, Al, Am, Ao, Ap, Aq, Ar, Au, Av, Aw, Ay, Az, Ba, Bb, Bc, Bd, Be, Bf, Bg, Bh, Bi, Bj, Bk, Bl, Bm, Bn, Bo, Bp, Bq, Br, Bs, Bt, Bv, Bw, Bx, Bz, Ca, Cb, Cc, Cd, Ce, Cf, Cg, Ch, Ci, Cj, Ck, Cl, Cm, Cn, Co, Cp, Cq, Cr, Cs, Ct, Cu, Cv, Cw, Cy, Cz, Da, Option.map_some, Db, Dc, De, Df, Dg, Dh, Di, Dj, Dk, Dl, Dm, Dn, Dp, Dq, Dr, Dt, Du, Dv, Dw, Dx, Dy, Dz, Ea, Eb, Ec, Ed, Ee, Ef, Eg, Eh, Ei, Ej, Ek, El, Em, Eo, Ep, Er, Es, Et, Eu, Ev, Ew, Ey, Ez, Fa, Fb, Fc, Fe, Ff, Fg, Fh, Fj, Fl, Fm, Fp, Fq, Fs, Ft, Fu, Fv, Fw, Fx, Nat.reduceEqDiff, Nat.reduceAdd, Nat.reduceMul, Nat.reduceLT, Nat.reduceLeDiff, ↓reduceIte, Lw, Lx, Nat.reduceBEq, Ly, Ma, Mb, Mc, reduceCtorEq, Md, Me, Fy, Fz, Ga, Gb, Gc, Gd, Ge, Gf, Gg, Gh, Gi, Gj, Gk, Gl, Gm, Gn, Gp, Gq, Gr, Gs, Gt, Gu, Gv, Gw, Gx, Gy, Gz, Ha, Hb, Hc, Hd, He, Hf, Hg, Hh, Hj, Hk, Hl, Hm, Hn, Ho, Hq, Hr, Hs, Ht, Hu, Hv, Hw, Hy, Hz, Ia, Ib, Ic, Ie, Ig, Ih, Ii, Ij, Ik, Il, Im, Io, Ip, Iq, Ir, Iu, Iv, Iw, Iy, Iz, Ja, Jb, Jc, Jd, Je, Jf, Jg, Jh, Ji, Jj, Jk, Jl, Jm, Jn, Jo, Jp, Jq, Jr, Js, Jt, Ju, Jv, Jw, Jy, Jz, Ka, Kb, Kc, Ke, Kf, Kg, Kh, Ki, Kj, Kk, Kl, Km, Kn, Ko, Kq, Kr, Ks, Kt, Ku, Kv, Kw, Kx, Ky, Kz, and_self, true_and, and_true, Mf, Mg, Mh, Mi, Mj, Mk, Ml, Mm, Mn, Mo, Mp, Mq, Mr, Ms, Int.reduceToNat, Int.reduceLT, Int.reduceEq, Int.reduceLE, List.getElem?_cons_zero, List.getElem?_cons_succ, La, Lb, Lc, Mt, Mu, Mv, Mw, gt_iff_lt, ge_iff_le, Ld, Le, Lf, Lg, Lh, Li, Mx, My, Lj, Ll, Lm, Ln, Lp, Lr, Ls, Lt, Lu, Lv, Mz, Na, keep1_grow, hkn, h1, h2, decide_true, decide_false, hw1, hw2, hshl, hz]
      exact ih'

theorem wacc_word (s : List UInt8) (j : Nat) : wacc s (4 * j) 0 4 = word s j := by
  simp only [wacc, word, Nat.add_zero]
  omega

theorem M_succ (s : List UInt8) (j : Nat) : M s j ++ [(word s j : Int)] = M s (j + 1) := by simp [M, List.range_succ]
theorem M_len (s : List UInt8) (j : Nat) : (M s j).length = j := by simp [M]

theorem loop5_1 {E : Env} (n : S) (hn : ∃ f p xs, n = .list f p xs) (s : List UInt8) (hs : s.length ≤ 900) (t : Int) (H7 : Hp) (a7 : List S) (H : Hp) (hH : trim H = H) : ∀ (m j : Nat), s.length ≤ 4 * (j + m) → j ≤ (s.length + 3) / 4 →
    blockR 2 [0, 1, 2, 7, 8] (loopR E [0, 1, 2, 7, 8, 11] l5_1 ⟨[(0, n), (1, .str s), (2, .int .u32 t), (7, growS H7 a7), (8, growS H (u32s (M s j))), (11, .int .i64 ((4 * j : Nat) : Int))], [], growH H 1 (u32s (M s j))⟩) =
      some (.norm, ⟨[(0, n), (1, .str s), (2, .int .u32 t), (7, growS H7 a7), (8, growS H (u32s (M s ((s.length + 3) / 4))))], [], growH H 1 (u32s (M s ((s.length + 3) / 4)))⟩) := by
  have hkn : ∀ ks, keep1 ks n = n := by
    intro ks
    obtain ⟨f, p, xs, rfl⟩ := hn
    rfl
  intro m
  induction m with
  | zero =>
    intro j h1 h2
    have h3 : ¬ ((4 * j : Nat) : Int) < (s.length : Int) := by omega
    have h4 : j = (s.length + 3) / 4 := by omega
    rw [loopR]
    conv => lhs; arg 3; arg 1; rw [l5_1]
    simp only [Aa, Ab, Ac, Ad, Ae, Af, Ag, Ah, Ai, Aj, Ak, Al, Am, Ao, Ap, Aq, Ar, Au, Av, Aw, Ay, Az, Ba, Bb, Bc, Bd, Be, Bf, Bg, Bh, Bi, Bj, Bk, Bl, Bm, Bn, Bo, Bp, Bq, Br, Bs, Bt, Bv, Bw, Bx, Bz, Ca, Cb, Cc, Cd, Ce, Cf, Cg, Ch, Ci, Cj, Ck, Cl, Cm, Cn, Co, Cp, Cq, Cr, Cs, Ct, Cu, Cv, Cw, Cy, Cz, Da, Option.map_some, Db, Dc, De, Df, Dg, Dh, Di, Dj, Dk, Dl, Dm, Dn, Dp, Dq, Dr, Dt, Du, Dv, Dw, Dx, Dy, Dz, Ea, Eb, Ec, Ed, Ee, Ef, Eg, Eh, Ei, Ej, Ek, El, Em, Eo, Ep, Er, Es, Et, Eu, Ev, Ew, Ey, Ez, Fa, Fb, Fc, Fe, Ff, Fg, Fh, Fj, Fl, Fm, Fp, Fq, Fs, Ft, Fu, Fv, Fw, Fx, Nat.reduceEqDiff, Nat.reduceAdd, Nat.reduceMul, Nat.reduceLT, Nat.reduceLeDiff, ↓reduceIte, Lw, Lx, Nat.reduceBEq, Ly, Ma, Mb, Mc, reduceCtorEq, Md, Me, Fy, Fz, Ga, Gb, Gc, Gd, Ge, Gf, Gg, Gh, Gi, Gj, Gk, Gl, Gm, Gn, Gp, Gq, Gr, Gs, Gt, Gu, Gv, Gw, Gx, Gy, Gz, Ha, Hb, Hc, Hd, He, Hf, Hg, Hh, Hj, Hk, Hl, Hm, Hn, Ho, Hq, Hr, Hs, Ht, Hu, Hv, Hw, Hy, Hz, Ia, Ib, Ic, Ie, Ig, Ih, Ii, Ij, Ik, Il, Im, Io, Ip, Iq, Ir, Iu, Iv, Iw, Iy, Iz, Ja, Jb, Jc, Jd, Je, Jf, Jg, Jh, Ji, Jj, Jk, Jl, Jm, Jn, Jo, Jp, Jq, Jr, Js, Jt, Ju, Jv, Jw, Jy, Jz, Ka, Kb, Kc, Ke, Kf, Kg, Kh, Ki, Kj, Kk, Kl, Km, Kn, Ko, Kq, Kr, Ks, Kt, Ku, Kv, Kw, Kx, Ky, Kz, and_self, true_and, and_true, Mf, Mg, Mh, Mi, Mj, Mk, Ml, Mm, Mn, Mo, Mp, Mq, Mr, Ms, Int.reduceToNat, Int.reduceLT, Int.reduceEq, Int.reduceLE, List.getElem?_cons_zero, List.getElem?_cons_succ, La, Lb, Lc, Mt, Mu, Mv, Mw, gt_iff_lt, ge_iff_le, Ld, Le, Lf, Lg, Lh, Li, Mx, My, Lj, Ll, Lm, Ln, Lp, Lr, Ls, Lt, Lu, Lv, Mz, Na, keep1_grow, hkn, h3, decide_false]
    rw [← h4]
  | succ m ih =>
    intro j h1 h2
    by_cases h : 4 * j < s.length
    · have h3 : ((4 * j : Nat) : Int) < (s.length : Int) := by omega
      have hin := loop5_2 (E := E) n hn s (by omega) t H7 H a7 (u32s (M s j)) (4 * j) (by omega) (growH H 1 (u32s (M s j))) 4 0 (by omega) (by decide)
      rw [wacc_word] at hin
      simp only [Int.cast_ofNat_Int] at hin
      rw [show (4 : Int) - 1 = 3 from rfl] at hin
      have hw : IntKind.i64.wrap (((4 * j : Nat) : Int) + 4) = ((4 * (j + 1) : Nat) : Int) := by
        rw [show ((4 * j : Nat) : Int) + 4 = ((4 * (j + 1) : Nat) : Int) by omega]
        exact wrap_i64 (by omega) (by omega)
      have hap := fun (d : Nat) (os : List KO) (fr : Fr) (vars : Vars) => app_grow (E := E) (C := Call E) (d := d) (os := os) (fr := fr) (vars := vars) (H := H) (esz := 1) (bytes := 4) (f := true) (p := true) (ys := u32s [(word s j : Int)]) (u32s_esz (M s j)) (u32s_esz _) (by simp [u32s_len, M_len, okLen]; omega) (by simp [u32s])
      rw [← u32s_app, M_succ] at hap
      have hys : u32s [(word s j : Int)] = [.int .u32 (word s j : Int)] := rfl
      rw [hys] at hap
      have ih' := ih (j + 1) (by omega) (by omega)
      rw [loopR]
      conv => lhs; arg 3; arg 1; rw [l5_1]
      simp only [Aa, Ab, Ac, Ad, Ae, Af, Ag, Ah, Ai, Aj, Ak, Al, Am, Ao, Ap, Aq, Ar, Au, Av, Aw, Ay, Az, Ba, Bb, Bc, Bd, Be, Bf, Bg, Bh, Bi, Bj, Bk, Bl, Bm, Bn, Bo, Bp, Bq, Br, Bs, Bt, Bv, Bw, Bx, Bz, Ca, Cb, Cc, Cd, Ce, Cf, Cg, Ch, Ci, Cj, Ck, Cl, Cm, Cn, Co, Cp, Cq, Cr, Cs, Ct, Cu, Cv, Cw, Cy, Cz, Da, Option.map_some, Db, Dc, De, Df, Dg, Dh, Di, Dj, Dk, Dl, Dm, Dn, Dp, Dq, Dr, Dt, Du, Dv, Dw, Dx, Dy, Dz, Ea, Eb, Ec, Ed, Ee, Ef, Eg, Eh, Ei, Ej, Ek, El, Em, Eo, Ep, Er, Es, Et, Eu, Ev, Ew, Ey, Ez, Fa, Fb, Fc, Fe, Ff, Fg, Fh, Fj, Fl, Fm, Fp, Fq, Fs, Ft, Fu, Fv, Fw, Fx, Nat.reduceEqDiff, Nat.reduceAdd, Nat.reduceMul, Nat.reduceLT, Nat.reduceLeDiff, ↓reduceIte, Lw, Lx, Nat.reduceBEq, Ly, Ma, Mb, Mc, reduceCtorEq, Md, Me, Fy, Fz, Ga, Gb, Gc, Gd, Ge, Gf, Gg, Gh, Gi, Gj, Gk, Gl, Gm, Gn, Gp, Gq, Gr, Gs, Gt, Gu, Gv, Gw, Gx, Gy, Gz, Ha, Hb, Hc, Hd, He, Hf, Hg, Hh, Hj, Hk, Hl, Hm, Hn, Ho, Hq, Hr, Hs, Ht, Hu, Hv, Hw, Hy, Hz, Ia, Ib, Ic, Ie, Ig, Ih, Ii, Ij, Ik, Il, Im, Io, Ip, Iq, Ir, Iu, Iv, Iw, Iy, Iz, Ja, Jb, Jc, Jd, Je, Jf, Jg, Jh, Ji, Jj, Jk, Jl, Jm, Jn, Jo, Jp, Jq, Jr, Js, Jt, Ju, Jv, Jw, Jy, Jz, Ka, Kb, Kc, Ke, Kf, Kg, Kh, Ki, Kj, Kk, Kl, Km, Kn, Ko, Kq, Kr, Ks, Kt, Ku, Kv, Kw, Kx, Ky, Kz, and_self, true_and, and_true, Mf, Mg, Mh, Mi, Mj, Mk, Ml, Mm, Mn, Mo, Mp, Mq, Mr, Ms, Int.reduceToNat, Int.reduceLT, Int.reduceEq, Int.reduceLE, List.getElem?_cons_zero, List.getElem?_cons_succ, La, Lb, Lc, Mt, Mu, Mv, Mw, gt_iff_lt, ge_iff_le, Ld, Le, Lf, Lg, Lh, Li, Mx, My, Lj, Ll, Lm, Ln, Lp, Lr, Ls, Lt, Lu, Lv, Mz, Na, keep1_grow, hkn, h3, decide_true]
      rw [hin]
      simp only [Aa, Ab, Ac, Ad, Ae, Af, Ag, Ah, Ai, Aj, Ak, Al, Am, Ao, Ap, Aq, Ar, Au, Av, Aw, Ay, Az, Ba, Bb, Bc, Bd, Be, Bf, Bg, Bh, Bi, Bj, Bk, Bl, Bm, Bn, Bo, Bp, Bq, Br, Bs, Bt, Bv, Bw, Bx, Bz, Ca, Cb, Cc, Cd, Ce, Cf, Cg, Ch, Ci, Cj, Ck, Cl, Cm, Cn, Co, Cp, Cq, Cr, Cs, Ct, Cu, Cv, Cw, Cy, Cz, Da, Option.map_some, Db, Dc, De, Df, Dg, Dh, Di, Dj, Dk, Dl, Dm, Dn, Dp, Dq, Dr, Dt, Du, Dv, Dw, Dx, Dy, Dz, Ea, Eb, Ec, Ed, Ee, Ef, Eg, Eh, Ei, Ej, Ek, El, Em, Eo, Ep, Er, Es, Et, Eu, Ev, Ew, Ey, Ez, Fa, Fb, Fc, Fe, Ff, Fg, Fh, Fj, Fl, Fm, Fp, Fq, Fs, Ft, Fu, Fv, Fw, Fx, Nat.reduceEqDiff, Nat.reduceAdd, Nat.reduceMul, Nat.reduceLT, Nat.reduceLeDiff, ↓reduceIte, Lw, Lx, Nat.reduceBEq, Ly, Ma, Mb, Mc, reduceCtorEq, Md, Me, Fy, Fz, Ga, Gb, Gc, Gd, Ge, Gf, Gg, Gh, Gi, Gj, Gk, Gl, Gm, Gn, Gp, Gq, Gr, Gs, Gt, Gu, Gv, Gw, Gx, Gy, Gz, Ha, Hb, Hc, Hd, He, Hf, Hg, Hh, Hj, Hk, Hl, Hm, Hn, Ho, Hq, Hr, Hs, Ht, Hu, Hv, Hw, Hy, Hz, Ia, Ib, Ic, Ie, Ig, Ih, Ii, Ij, Ik, Il, Im, Io, Ip, Iq, Ir, Iu, Iv, Iw, Iy, Iz, Ja, Jb, Jc, Jd, Je, Jf, Jg, Jh, Ji, Jj, Jk, Jl, Jm, Jn, Jo, Jp, Jq, Jr, Js, Jt, Ju, Jv, Jw, Jy, Jz, Ka, Kb, Kc, Ke, Kf, Kg, Kh, Ki, Kj, Kk, Kl, Km, Kn, Ko, Kq, Kr, Ks, Kt, Ku, Kv, Kw, Kx, Ky, Kz, and_self, true_and, and_true, Mf, Mg, Mh, Mi, Mj, Mk, Ml, Mm, Mn, Mo, Mp, Mq, Mr, Ms, Int.reduceToNat, Int.reduceLT, Int.reduceEq, Int.reduceLE, List.getElem?_cons_zero, List.getElem?_cons_succ, La, Lb, Lc, Mt, Mu, Mv, Mw, gt_iff_lt, ge_iff_le, Ld, Le, Lf, Lg, Lh, Li, Mx, My, Lj, Ll, Lm, Ln, Lp, Lr, Ls, Lt, Lu, Lv, Mz, Na, keep1_grow, hkn, hap, hw]
      exact ih'
    · have h3 : ¬ ((4 * j : Nat) : Int) < (s.length : Int) := by omega
      have h4 : j = (s.length + 3) / 4 := by omega
      rw [loopR]
      conv => lhs; arg 3; arg 1; rw [l5_1]
      simp only [Aa, Ab, Ac, Ad, Ae, Af, Ag, Ah, Ai, Aj, Ak, Al, Am, Ao, Ap, Aq, Ar, Au, Av, Aw, Ay, Az, Ba, Bb, Bc, Bd, Be, Bf, Bg, Bh, Bi, Bj, Bk, Bl, Bm, Bn, Bo, Bp, Bq, Br, Bs, Bt, Bv, Bw, Bx, Bz, Ca, Cb, Cc, Cd, Ce, Cf, Cg, Ch, Ci, Cj, Ck, Cl, Cm, Cn, Co, Cp, Cq, Cr, Cs, Ct, Cu, Cv, Cw, Cy, Cz, Da, Option.map_some, Db, Dc, De, Df, Dg, Dh, Di, Dj, Dk, Dl, Dm, Dn, Dp, Dq, Dr, Dt, Du, Dv, Dw, Dx, Dy, Dz, Ea, Eb, Ec, Ed, Ee, Ef, Eg, Eh, Ei, Ej, Ek, El, Em, Eo, Ep, Er, Es, Et, Eu, Ev, Ew, Ey, Ez, Fa, Fb, Fc, Fe, Ff, Fg, Fh, Fj, Fl, Fm, Fp, Fq, Fs, Ft, Fu, Fv, Fw, Fx, Nat.reduceEqDiff, Nat.reduceAdd, Nat.reduceMul, Nat.reduceLT, Nat.reduceLeDiff, ↓reduceIte, Lw, Lx, Nat.reduceBEq, Ly, Ma, Mb, Mc, reduceCtorEq, Md, Me, Fy, Fz, Ga, Gb, Gc, Gd, Ge, Gf, Gg, Gh, Gi, Gj, Gk, Gl, Gm, Gn, Gp, Gq, Gr, Gs, Gt, Gu, Gv, Gw, Gx, Gy, Gz, Ha, Hb, Hc, Hd, He, Hf, Hg, Hh, Hj, Hk, Hl, Hm, Hn, Ho, Hq, Hr, Hs, Ht, Hu, Hv, Hw, Hy, Hz, Ia, Ib, Ic, Ie, Ig, Ih, Ii, Ij, Ik, Il, Im, Io, Ip, Iq, Ir, Iu, Iv, Iw, Iy, Iz, Ja, Jb, Jc, Jd, Je, Jf, Jg, Jh, Ji, Jj, Jk, Jl, Jm, Jn, Jo, Jp, Jq, Jr, Js, Jt, Ju, Jv, Jw, Jy, Jz, Ka, Kb, Kc, Ke, Kf, Kg, Kh, Ki, Kj, Kk, Kl, Km, Kn, Ko, Kq, Kr, Ks, Kt, Ku, Kv, Kw, Kx, Ky, Kz, and_self, true_and, and_true, Mf, Mg, Mh, Mi, Mj, Mk, Ml, Mm, Mn, Mo, Mp, Mq, Mr, Ms, Int.reduceToNat, Int.reduceLT, Int.reduceEq, Int.reduceLE, List.getElem?_cons_zero, List.getElem?_cons_succ, La, Lb, Lc, Mt, Mu, Mv, Mw, gt_iff_lt, ge_iff_le, Ld, Le, Lf, Lg, Lh, Li, Mx, My, Lj, Ll, Lm, Ln, Lp, Lr, Ls, Lt, Lu, Lv, Mz, Na, keep1_grow, hkn, h3, decide_false]
      rw [← h4]

theorem loop5_0 {E : Env} (t : Int) (s : List UInt8) (f p : Bool) (l : List Int) (hl : l.length ≤ 1000) (L8 : S) (h8 : L8 = .list true true []) : ∀ (n k : Nat) (acc : List Int), l.length ≤ k + n → acc.length ≤ 2 * k → k ≤ l.length →
    blockR 0 [0, 1, 2, 7, 8] (loopR E [0, 1, 2, 7, 8, 23, 24, 25] l5_0 ⟨[(0, .list f p (i64s l)), (1, .str s), (2, .int .u32 t), (7, growS [] (u32s acc)), (8, L8), (23, .list f p (i64s l)), (24, .int .i64 l.length), (25, .int .i64 k)], [], growH [] 1 (u32s acc)⟩) =
      some (.norm, ⟨[(0, .list f p (i64s l)), (1, .str s), (2, .int .u32 t), (7, growS [] (u32s (acc ++ (l.drop k).flatMap numW))), (8, L8)], [], growH [] 1 (u32s (acc ++ (l.drop k).flatMap numW))⟩) := by
  subst h8
  intro n
  induction n with
  | zero =>
    intro k acc hk ha hkl
    have h1 : ¬ (k : Int) < (l.length : Int) := by omega
    rw [loopR]
    conv => lhs; arg 3; arg 1; rw [l5_0]
    simp only [Aa, Ab, Ac, Ad, Ae, Af, Ag, Ah, Ai, Aj, Ak, Al, Am, Ao, Ap, Aq, Ar, Au, Av, Aw, Ay, Az, Ba, Bb, Bc, Bd, Be, Bf, Bg, Bh, Bi, Bj, Bk, Bl, Bm, Bn, Bo, Bp, Bq, Br, Bs, Bt, Bv, Bw, Bx, Bz, Ca, Cb, Cc, Cd, Ce, Cf, Cg, Ch, Ci, Cj, Ck, Cl, Cm, Cn, Co, Cp, Cq, Cr, Cs, Ct, Cu, Cv, Cw, Cy, Cz, Da, Option.map_some, Db, Dc, De, Df, Dg, Dh, Di, Dj, Dk, Dl, Dm, Dn, Dp, Dq, Dr, Dt, Du, Dv, Dw, Dx, Dy, Dz, Ea, Eb, Ec, Ed, Ee, Ef, Eg, Eh, Ei, Ej, Ek, El, Em, Eo, Ep, Er, Es, Et, Eu, Ev, Ew, Ey, Ez, Fa, Fb, Fc, Fe, Ff, Fg, Fh, Fj, Fl, Fm, Fp, Fq, Fs, Ft, Fu, Fv, Fw, Fx, Nat.reduceEqDiff, Nat.reduceAdd, Nat.reduceMul, Nat.reduceLT, Nat.reduceLeDiff, ↓reduceIte, Lw, Lx, Nat.reduceBEq, Ly, Ma, Mb, Mc, reduceCtorEq, Md, Me, Fy, Fz, Ga, Gb, Gc, Gd, Ge, Gf, Gg, Gh, Gi, Gj, Gk, Gl, Gm, Gn, Gp, Gq, Gr, Gs, Gt, Gu, Gv, Gw, Gx, Gy, Gz, Ha, Hb, Hc, Hd, He, Hf, Hg, Hh, Hj, Hk, Hl, Hm, Hn, Ho, Hq, Hr, Hs, Ht, Hu, Hv, Hw, Hy, Hz, Ia, Ib, Ic, Ie, Ig, Ih, Ii, Ij, Ik, Il, Im, Io, Ip, Iq, Ir, Iu, Iv, Iw, Iy, Iz, Ja, Jb, Jc, Jd, Je, Jf, Jg, Jh, Ji, Jj, Jk, Jl, Jm, Jn, Jo, Jp, Jq, Jr, Js, Jt, Ju, Jv, Jw, Jy, Jz, Ka, Kb, Kc, Ke, Kf, Kg, Kh, Ki, Kj, Kk, Kl, Km, Kn, Ko, Kq, Kr, Ks, Kt, Ku, Kv, Kw, Kx, Ky, Kz, and_self, true_and, and_true, Mf, Mg, Mh, Mi, Mj, Mk, Ml, Mm, Mn, Mo, Mp, Mq, Mr, Ms, Int.reduceToNat, Int.reduceLT, Int.reduceEq, Int.reduceLE, List.getElem?_cons_zero, List.getElem?_cons_succ, La, Lb, Lc, Mt, Mu, Mv, Mw, gt_iff_lt, ge_iff_le, Ld, Le, Lf, Lg, Lh, Li, Mx, My, Lj, Ll, Lm, Ln, Lp, Lr, Ls, Lt, Lu, Lv, Mz, Na, keep1_grow, h1, decide_false]
    rw [List.drop_eq_nil_of_le (by omega)]
    simp only [List.flatMap_nil, List.append_nil]
  | succ n ih =>
    intro k acc hk ha hkl
    by_cases h : k < l.length
    · have h1 : (k : Int) < (l.length : Int) := by omega
      have hx := i64s_get (List.getElem?_eq_getElem h)
      have hw1 : IntKind.i64.wrap ((k : Int) + 1) = ((k + 1 : Nat) : Int) := wrap_i64 (by omega) (by omega)
      have ih' := ih (k + 1) (acc ++ numW l[k]) (by omega) (by simp [numW]; omega) (by omega)
      have hap := fun (d : Nat) (os : List KO) (fr : Fr) (vars : Vars) => app_grow (E := E) (C := Call E) (d := d) (os := os) (fr := fr) (vars := vars) (H := []) (esz := 1) (bytes := 4) (f := true) (p := true) (ys := u32s (numW l[k])) (u32s_esz acc) (u32s_esz _) (by simp [u32s, numW, okLen]; omega) (by simp [u32s, numW])
      rw [← u32s_app] at hap
      have hys : u32s (numW l[k]) = [.int .u32 (IntKind.u32.wrap (IntKind.u64.wrap l[k])), .int .u32 (IntKind.u32.wrap (ishr .u64 (IntKind.u64.wrap l[k]) 32))] := rfl
      rw [hys] at hap
      rw [loopR]
      conv => lhs; arg 3; arg 1; rw [l5_0]
      rw [List.drop_eq_getElem_cons h, List.flatMap_cons, ← List.append_assoc]
      simp only [Aa, Ab, Ac, Ad, Ae, Af, Ag, Ah, Ai, Aj, Ak, Al, Am, Ao, Ap, Aq, Ar, Au, Av, Aw, Ay, Az, Ba, Bb, Bc, Bd, Be, Bf, Bg, Bh, Bi, Bj, Bk, Bl, Bm, Bn, Bo, Bp, Bq, Br, Bs, Bt, Bv, Bw, Bx, Bz, Ca, Cb, Cc, Cd, Ce, Cf, Cg, Ch, Ci, Cj, Ck, Cl, Cm, Cn, Co, Cp, Cq, Cr, Cs, Ct, Cu, Cv, Cw, Cy, Cz, Da, Option.map_some, Db, Dc, De, Df, Dg, Dh, Di, Dj, Dk, Dl, Dm, Dn, Dp, Dq, Dr, Dt, Du, Dv, Dw, Dx, Dy, Dz, Ea, Eb, Ec, Ed, Ee, Ef, Eg, Eh, Ei, Ej, Ek, El, Em, Eo, Ep, Er, Es, Et, Eu, Ev, Ew, Ey, Ez, Fa, Fb, Fc, Fe, Ff, Fg, Fh, Fj, Fl, Fm, Fp, Fq, Fs, Ft, Fu, Fv, Fw, Fx, Nat.reduceEqDiff, Nat.reduceAdd, Nat.reduceMul, Nat.reduceLT, Nat.reduceLeDiff, ↓reduceIte, Lw, Lx, Nat.reduceBEq, Ly, Ma, Mb, Mc, reduceCtorEq, Md, Me, Fy, Fz, Ga, Gb, Gc, Gd, Ge, Gf, Gg, Gh, Gi, Gj, Gk, Gl, Gm, Gn, Gp, Gq, Gr, Gs, Gt, Gu, Gv, Gw, Gx, Gy, Gz, Ha, Hb, Hc, Hd, He, Hf, Hg, Hh, Hj, Hk, Hl, Hm, Hn, Ho, Hq, Hr, Hs, Ht, Hu, Hv, Hw, Hy, Hz, Ia, Ib, Ic, Ie, Ig, Ih, Ii, Ij, Ik, Il, Im, Io, Ip, Iq, Ir, Iu, Iv, Iw, Iy, Iz, Ja, Jb, Jc, Jd, Je, Jf, Jg, Jh, Ji, Jj, Jk, Jl, Jm, Jn, Jo, Jp, Jq, Jr, Js, Jt, Ju, Jv, Jw, Jy, Jz, Ka, Kb, Kc, Ke, Kf, Kg, Kh, Ki, Kj, Kk, Kl, Km, Kn, Ko, Kq, Kr, Ks, Kt, Ku, Kv, Kw, Kx, Ky, Kz, and_self, true_and, and_true, Mf, Mg, Mh, Mi, Mj, Mk, Ml, Mm, Mn, Mo, Mp, Mq, Mr, Ms, Int.reduceToNat, Int.reduceLT, Int.reduceEq, Int.reduceLE, List.getElem?_cons_zero, List.getElem?_cons_succ, La, Lb, Lc, Mt, Mu, Mv, Mw, gt_iff_lt, ge_iff_le, Ld, Le, Lf, Lg, Lh, Li, Mx, My, Lj, Ll, Lm, Ln, Lp, Lr, Ls, Lt, Lu, Lv, Mz, Na, keep1_grow, h1, decide_true, hx, hw1, hap]
      exact ih'
    · have h1 : ¬ (k : Int) < (l.length : Int) := by omega
      rw [loopR]
      conv => lhs; arg 3; arg 1; rw [l5_0]
      simp only [Aa, Ab, Ac, Ad, Ae, Af, Ag, Ah, Ai, Aj, Ak, Al, Am, Ao, Ap, Aq, Ar, Au, Av, Aw, Ay, Az, Ba, Bb, Bc, Bd, Be, Bf, Bg, Bh, Bi, Bj, Bk, Bl, Bm, Bn, Bo, Bp, Bq, Br, Bs, Bt, Bv, Bw, Bx, Bz, Ca, Cb, Cc, Cd, Ce, Cf, Cg, Ch, Ci, Cj, Ck, Cl, Cm, Cn, Co, Cp, Cq, Cr, Cs, Ct, Cu, Cv, Cw, Cy, Cz, Da, Option.map_some, Db, Dc, De, Df, Dg, Dh, Di, Dj, Dk, Dl, Dm, Dn, Dp, Dq, Dr, Dt, Du, Dv, Dw, Dx, Dy, Dz, Ea, Eb, Ec, Ed, Ee, Ef, Eg, Eh, Ei, Ej, Ek, El, Em, Eo, Ep, Er, Es, Et, Eu, Ev, Ew, Ey, Ez, Fa, Fb, Fc, Fe, Ff, Fg, Fh, Fj, Fl, Fm, Fp, Fq, Fs, Ft, Fu, Fv, Fw, Fx, Nat.reduceEqDiff, Nat.reduceAdd, Nat.reduceMul, Nat.reduceLT, Nat.reduceLeDiff, ↓reduceIte, Lw, Lx, Nat.reduceBEq, Ly, Ma, Mb, Mc, reduceCtorEq, Md, Me, Fy, Fz, Ga, Gb, Gc, Gd, Ge, Gf, Gg, Gh, Gi, Gj, Gk, Gl, Gm, Gn, Gp, Gq, Gr, Gs, Gt, Gu, Gv, Gw, Gx, Gy, Gz, Ha, Hb, Hc, Hd, He, Hf, Hg, Hh, Hj, Hk, Hl, Hm, Hn, Ho, Hq, Hr, Hs, Ht, Hu, Hv, Hw, Hy, Hz, Ia, Ib, Ic, Ie, Ig, Ih, Ii, Ij, Ik, Il, Im, Io, Ip, Iq, Ir, Iu, Iv, Iw, Iy, Iz, Ja, Jb, Jc, Jd, Je, Jf, Jg, Jh, Ji, Jj, Jk, Jl, Jm, Jn, Jo, Jp, Jq, Jr, Js, Jt, Ju, Jv, Jw, Jy, Jz, Ka, Kb, Kc, Ke, Kf, Kg, Kh, Ki, Kj, Kk, Kl, Km, Kn, Ko, Kq, Kr, Ks, Kt, Ku, Kv, Kw, Kx, Ky, Kz, and_self, true_and, and_true, Mf, Mg, Mh, Mi, Mj, Mk, Ml, Mm, Mn, Mo, Mp, Mq, Mr, Ms, Int.reduceToNat, Int.reduceLT, Int.reduceEq, Int.reduceLE, List.getElem?_cons_zero, List.getElem?_cons_succ, La, Lb, Lc, Mt, Mu, Mv, Mw, gt_iff_lt, ge_iff_le, Ld, Le, Lf, Lg, Lh, Li, Mx, My, Lj, Ll, Lm, Ln, Lp, Lr, Ls, Lt, Lu, Lv, Mz, Na, keep1_grow, h1, decide_false]
      rw [List.drop_eq_nil_of_le (by omega)]
      simp only [List.flatMap_nil, List.append_nil]

theorem eqvS_self (a b c d : Int) : eqvS false true [.i, .i, .i, .i] (.agg [.int .u32 a, .int .u32 b, .int .u32 c, .int .u32 d]) (.agg [.int .u32 a, .int .u32 b, .int .u32 c, .int .u32 d]) = some (.bool true) := by
  simp [eqvS, eqV, eqK, eqSc]

theorem c_forms {E : Env} (h25 : E 25 = some (.code c25)) (h9 : E 9 = some (.code c9)) (h14 : E 14 = some (.code c14)) (h15 : E 15 = some (.code c15)) (h17 : E 17 = some (.code c17)) (h5 : E 5 = some (.code c5)) {g8 : Fun} (h8 : E 8 = some g8) (h8d : g8.isDeep = true)
    (hsane : ∀ hp, deepE E (Call E) 8 [] hp = some (.bool true)) (f p : Bool) (l : List Int) (s : List UInt8) (t : Int) : ∃ hp, Call E 5 [.list f p (i64s l), .str s, .int .u32 t] [] = some (.bool true, hp) := by
  rw [Call_mk E h5 _ _ rfl]
  by_cases hb1 : 60 < l.length
  · have h1 : (60 : Int) < (l.length : Int) := by omega
    refine ⟨[], ?_⟩
    simp only [Aa, Ab, Ac, Ad, Ae, Af, Ag, Ah, Ai, Aj, Ak, Al, Am, Ao, Ap, Aq, Ar, Au, Av, Aw, Ay, Az, Ba, Bb, Bc, Bd, Be, Bf, Bg, Bh, Bi, Bj, Bk, Bl, Bm, Bn, Bo, Bp, Bq, Br, Bs, Bt, Bv, Bw, Bx, Bz, Ca, Cb, Cc, Cd, Ce, Cf, Cg, Ch, Ci, Cj, Ck, Cl, Cm, Cn, Co, Cp, Cq, Cr, Cs, Ct, Cu, Cv, Cw, Cy, Cz, Da, Option.map_some, Db, Dc, De, Df, Dg, Dh, Di, Dj, Dk, Dl, Dm, Dn, Dp, Dq, Dr, Dt, Du, Dv, Dw, Dx, Dy, Dz, Ea, Eb, Ec, Ed, Ee, Ef, Eg, Eh, Ei, Ej, Ek, El, Em, Eo, Ep, Er, Es, Et, Eu, Ev, Ew, Ey, Ez, Fa, Fb, Fc, Fe, Ff, Fg, Fh, Fj, Fl, Fm, Fp, Fq, Fs, Ft, Fu, Fv, Fw, Fx, Nat.reduceEqDiff, Nat.reduceAdd, Nat.reduceMul, Nat.reduceLT, Nat.reduceLeDiff, ↓reduceIte, Lw, Lx, Nat.reduceBEq, Ly, Ma, Mb, Mc, reduceCtorEq, Md, Me, Fy, Fz, Ga, Gb, Gc, Gd, Ge, Gf, Gg, Gh, Gi, Gj, Gk, Gl, Gm, Gn, Gp, Gq, Gr, Gs, Gt, Gu, Gv, Gw, Gx, Gy, Gz, Ha, Hb, Hc, Hd, He, Hf, Hg, Hh, Hj, Hk, Hl, Hm, Hn, Ho, Hq, Hr, Hs, Ht, Hu, Hv, Hw, Hy, Hz, Ia, Ib, Ic, Ie, Ig, Ih, Ii, Ij, Ik, Il, Im, Io, Ip, Iq, Ir, Iu, Iv, Iw, Iy, Iz, Ja, Jb, Jc, Jd, Je, Jf, Jg, Jh, Ji, Jj, Jk, Jl, Jm, Jn, Jo, Jp, Jq, Jr, Js, Jt, Ju, Jv, Jw, Jy, Jz, Ka, Kb, Kc, Ke, Kf, Kg, Kh, Ki, Kj, Kk, Kl, Km, Kn, Ko, Kq, Kr, Ks, Kt, Ku, Kv, Kw, Kx, Ky, Kz, and_self, true_and, and_true, Mf, Mg, Mh, Mi, Mj, Mk, Ml, Mm, Mn, Mo, Mp, Mq, Mr, Ms, Int.reduceToNat, Int.reduceLT, Int.reduceEq, Int.reduceLE, List.getElem?_cons_zero, List.getElem?_cons_succ, La, Lb, Lc, Mt, Mu, Mv, Mw, gt_iff_lt, ge_iff_le, Ld, Le, Lf, Lg, Lh, Li, Mx, My, Lj, Ll, Lm, Ln, Lp, Lr, Ls, Lt, Lu, Lv, Mz, Na, i64s_len, h1, decide_true, op_call_deep _ _ h8 h8d, hsane]
  · by_cases hb2 : 200 < s.length
    · have h1 : ¬ (60 : Int) < (l.length : Int) := by omega
      have h2 : (200 : Int) < (s.length : Int) := by omega
      refine ⟨[], ?_⟩
      simp only [Aa, Ab, Ac, Ad, Ae, Af, Ag, Ah, Ai, Aj, Ak, Al, Am, Ao, Ap, Aq, Ar, Au, Av, Aw, Ay, Az, Ba, Bb, Bc, Bd, Be, Bf, Bg, Bh, Bi, Bj, Bk, Bl, Bm, Bn, Bo, Bp, Bq, Br, Bs, Bt, Bv, Bw, Bx, Bz, Ca, Cb, Cc, Cd, Ce, Cf, Cg, Ch, Ci, Cj, Ck, Cl, Cm, Cn, Co, Cp, Cq, Cr, Cs, Ct, Cu, Cv, Cw, Cy, Cz, Da, Option.map_some, Db, Dc, De, Df, Dg, Dh, Di, Dj, Dk, Dl, Dm, Dn, Dp, Dq, Dr, Dt, Du, Dv, Dw, Dx, Dy, Dz, Ea, Eb, Ec, Ed, Ee, Ef, Eg, Eh, Ei, Ej, Ek, El, Em, Eo, Ep, Er, Es, Et, Eu, Ev, Ew, Ey, Ez, Fa, Fb, Fc, Fe, Ff, Fg, Fh, Fj, Fl, Fm, Fp, Fq, Fs, Ft, Fu, Fv, Fw, Fx, Nat.reduceEqDiff, Nat.reduceAdd, Nat.reduceMul, Nat.reduceLT, Nat.reduceLeDiff, ↓reduceIte, Lw, Lx, Nat.reduceBEq, Ly, Ma, Mb, Mc, reduceCtorEq, Md, Me, Fy, Fz, Ga, Gb, Gc, Gd, Ge, Gf, Gg, Gh, Gi, Gj, Gk, Gl, Gm, Gn, Gp, Gq, Gr, Gs, Gt, Gu, Gv, Gw, Gx, Gy, Gz, Ha, Hb, Hc, Hd, He, Hf, Hg, Hh, Hj, Hk, Hl, Hm, Hn, Ho, Hq, Hr, Hs, Ht, Hu, Hv, Hw, Hy, Hz, Ia, Ib, Ic, Ie, Ig, Ih, Ii, Ij, Ik, Il, Im, Io, Ip, Iq, Ir, Iu, Iv, Iw, Iy, Iz, Ja, Jb, Jc, Jd, Je, Jf, Jg, Jh, Ji, Jj, Jk, Jl, Jm, Jn, Jo, Jp, Jq, Jr, Js, Jt, Ju, Jv, Jw, Jy, Jz, Ka, Kb, Kc, Ke, Kf, Kg, Kh, Ki, Kj, Kk, Kl, Km, Kn, Ko, Kq, Kr, Ks, Kt, Ku, Kv, Kw, Kx, Ky, Kz, and_self, true_and, and_true, Mf, Mg, Mh, Mi, Mj, Mk, Ml, Mm, Mn, Mo, Mp, Mq, Mr, Ms, Int.reduceToNat, Int.reduceLT, Int.reduceEq, Int.reduceLE, List.getElem?_cons_zero, List.getElem?_cons_succ, La, Lb, Lc, Mt, Mu, Mv, Mw, gt_iff_lt, ge_iff_le, Ld, Le, Lf, Lg, Lh, Li, Mx, My, Lj, Ll, Lm, Ln, Lp, Lr, Ls, Lt, Lu, Lv, Mz, Na, i64s_len, h1, h2, decide_true, decide_false, op_call_deep _ _ h8 h8d, hsane]
    · have h1 : ¬ (60 : Int) < (l.length : Int) := by omega
      have h2 : ¬ (200 : Int) < (s.length : Int) := by omega
      have hl0 := loop5_0 (E := E) t s f p l (by omega) _ rfl l.length 0 [] (by omega) (by simp) (by omega)
      simp only [Int.cast_ofNat_Int, List.drop_zero, List.nil_append] at hl0
      rw [show growS [] (u32s []) = .list true true [] from rfl, show growH [] 1 (u32s []) = [] from rfl] at hl0
      have hl1 := loop5_1 (E := E) (.list f p (i64s l)) ⟨_, _, _, rfl⟩ s (by omega) t [] (u32s (l.flatMap numW)) (growH [] 1 (u32s (l.flatMap numW))) (trim_grow [] 1 _ rfl) s.length 0 (by omega) (by omega)
      simp only [Nat.mul_zero, Int.cast_ofNat_Int] at hl1
      rw [show growS (growH [] 1 (u32s (l.flatMap numW))) (u32s (M s 0)) = .list true true [] from rfl, show growH (growH [] 1 (u32s (l.flatMap numW))) 1 (u32s (M s 0)) = growH [] 1 (u32s (l.flatMap numW)) from rfl] at hl1
      have hap := fun (d : Nat) (os : List KO) (fr : Fr) (vars : Vars) => app_grow (E := E) (C := Call E) (d := d) (os := os) (fr := fr) (vars := vars) (H := growH [] 1 (u32s (l.flatMap numW))) (esz := 1) (bytes := 4) (f := true) (p := true) (ys := u32s [IntKind.u32.wrap s.length]) (u32s_esz (M s ((s.length + 3) / 4))) (u32s_esz _) (by simp [u32s_len, M_len, okLen]; omega) (by simp [u32s])
      rw [← u32s_app, ← textW_M] at hap
      have hys : u32s [IntKind.u32.wrap s.length] = [.int .u32 (IntKind.u32.wrap s.length)] := rfl
      rw [hys] at hap
      have htl : (textW s).length ≤ 140737488351232 := by rw [textW_M]; simp [M_len]; omega
      have hc1 := fun hp => d_numbers15 h25 h9 h14 h15 t f p l (by omega) hp
      have hc2 := fun hp => d_bytes17 h25 h9 h14 h17 t s (by omega) hp
      have hc3 : deepE E (Call E) 14 [.int .u32 t, growS [] (u32s (l.flatMap numW))] (growH (growH [] 1 (u32s (l.flatMap numW))) 1 (u32s (textW s))) = some (words t (l.flatMap numW)).s := by
        rw [← d_words14 h25 h9 h14 t (u32s (l.flatMap numW)).isEmpty (u32s (l.flatMap numW)).isEmpty (l.flatMap numW) (by rw [numW_len]; omega) [], deep_code h14 rfl, deep_code h14 rfl, deep_go, deep_go]
        simp only [mapO_nil, mapO_cons, consO_some, snapA_int, snapA_list, snapA_grow2 (u32s_atom _)]
      have hc4 : deepE E (Call E) 14 [.int .u32 t, growS (growH [] 1 (u32s (l.flatMap numW))) (u32s (textW s))] (growH (growH [] 1 (u32s (l.flatMap numW))) 1 (u32s (textW s))) = some (words t (textW s)).s := by
        rw [← d_words14 h25 h9 h14 t (u32s (textW s)).isEmpty (u32s (textW s)).isEmpty (textW s) htl [], deep_code h14 rfl, deep_code h14 rfl, deep_go, deep_go]
        simp only [mapO_nil, mapO_cons, consO_some, snapA_int, snapA_list, snapA_grow (u32s_atom _)]
      refine ⟨growH (growH [] 1 (u32s (l.flatMap numW))) 1 (u32s (textW s)), ?_⟩
      simp only [Aa, Ab, Ac, Ad, Ae, Af, Ag, Ah, Ai, Aj, Ak, Al, Am, Ao, Ap, Aq, Ar, Au, Av, Aw, Ay, Az, Ba, Bb, Bc, Bd, Be, Bf, Bg, Bh, Bi, Bj, Bk, Bl, Bm, Bn, Bo, Bp, Bq, Br, Bs, Bt, Bv, Bw, Bx, Bz, Ca, Cb, Cc, Cd, Ce, Cf, Cg, Ch, Ci, Cj, Ck, Cl, Cm, Cn, Co, Cp, Cq, Cr, Cs, Ct, Cu, Cv, Cw, Cy, Cz, Da, Option.map_some, Db, Dc, De, Df, Dg, Dh, Di, Dj, Dk, Dl, Dm, Dn, Dp, Dq, Dr, Dt, Du, Dv, Dw, Dx, Dy, Dz, Ea, Eb, Ec, Ed, Ee, Ef, Eg, Eh, Ei, Ej, Ek, El, Em, Eo, Ep, Er, Es, Et, Eu, Ev, Ew, Ey, Ez, Fa, Fb, Fc, Fe, Ff, Fg, Fh, Fj, Fl, Fm, Fp, Fq, Fs, Ft, Fu, Fv, Fw, Fx, Nat.reduceEqDiff, Nat.reduceAdd, Nat.reduceMul, Nat.reduceLT, Nat.reduceLeDiff, ↓reduceIte, Lw, Lx, Nat.reduceBEq, Ly, Ma, Mb, Mc, reduceCtorEq, Md, Me, Fy, Fz, Ga, Gb, Gc, Gd, Ge, Gf, Gg, Gh, Gi, Gj, Gk, Gl, Gm, Gn, Gp, Gq, Gr, Gs, Gt, Gu, Gv, Gw, Gx, Gy, Gz, Ha, Hb, Hc, Hd, He, Hf, Hg, Hh, Hj, Hk, Hl, Hm, Hn, Ho, Hq, Hr, Hs, Ht, Hu, Hv, Hw, Hy, Hz, Ia, Ib, Ic, Ie, Ig, Ih, Ii, Ij, Ik, Il, Im, Io, Ip, Iq, Ir, Iu, Iv, Iw, Iy, Iz, Ja, Jb, Jc, Jd, Je, Jf, Jg, Jh, Ji, Jj, Jk, Jl, Jm, Jn, Jo, Jp, Jq, Jr, Js, Jt, Ju, Jv, Jw, Jy, Jz, Ka, Kb, Kc, Ke, Kf, Kg, Kh, Ki, Kj, Kk, Kl, Km, Kn, Ko, Kq, Kr, Ks, Kt, Ku, Kv, Kw, Kx, Ky, Kz, and_self, true_and, and_true, Mf, Mg, Mh, Mi, Mj, Mk, Ml, Mm, Mn, Mo, Mp, Mq, Mr, Ms, Int.reduceToNat, Int.reduceLT, Int.reduceEq, Int.reduceLE, List.getElem?_cons_zero, List.getElem?_cons_succ, La, Lb, Lc, Mt, Mu, Mv, Mw, gt_iff_lt, ge_iff_le, Ld, Le, Lf, Lg, Lh, Li, Mx, My, Lj, Ll, Lm, Ln, Lp, Lr, Ls, Lt, Lu, Lv, Mz, Na, keep1_grow, i64s_len, h1, h2, decide_true, decide_false]
      rw [hl0]
      simp only [Aa, Ab, Ac, Ad, Ae, Af, Ag, Ah, Ai, Aj, Ak, Al, Am, Ao, Ap, Aq, Ar, Au, Av, Aw, Ay, Az, Ba, Bb, Bc, Bd, Be, Bf, Bg, Bh, Bi, Bj, Bk, Bl, Bm, Bn, Bo, Bp, Bq, Br, Bs, Bt, Bv, Bw, Bx, Bz, Ca, Cb, Cc, Cd, Ce, Cf, Cg, Ch, Ci, Cj, Ck, Cl, Cm, Cn, Co, Cp, Cq, Cr, Cs, Ct, Cu, Cv, Cw, Cy, Cz, Da, Option.map_some, Db, Dc, De, Df, Dg, Dh, Di, Dj, Dk, Dl, Dm, Dn, Dp, Dq, Dr, Dt, Du, Dv, Dw, Dx, Dy, Dz, Ea, Eb, Ec, Ed, Ee, Ef, Eg, Eh, Ei, Ej, Ek, El, Em, Eo, Ep, Er, Es, Et, Eu, Ev, Ew, Ey, Ez, Fa, Fb, Fc, Fe, Ff, Fg, Fh, Fj, Fl, Fm, Fp, Fq, Fs, Ft, Fu, Fv, Fw, Fx, Nat.reduceEqDiff, Nat.reduceAdd, Nat.reduceMul, Nat.reduceLT, Nat.reduceLeDiff, ↓reduceIte, Lw, Lx, Nat.reduceBEq, Ly, Ma, Mb, Mc, reduceCtorEq, Md, Me, Fy, Fz, Ga, Gb, Gc, Gd, Ge, Gf, Gg, Gh, Gi, Gj, Gk, Gl, Gm, Gn, Gp, Gq, Gr, Gs, Gt, Gu, Gv, Gw, Gx, Gy, Gz, Ha, Hb, Hc, Hd, He, Hf, Hg, Hh, Hj, Hk, Hl, Hm, Hn, Ho, Hq, Hr, Hs, Ht, Hu, Hv, Hw, Hy, Hz, Ia, Ib, Ic, Ie, Ig, Ih, Ii, Ij, Ik, Il, Im, Io, Ip, Iq, Ir, Iu, Iv, Iw, Iy, Iz, Ja, Jb, Jc, Jd, Je, Jf, Jg, Jh, Ji, Jj, Jk, Jl, Jm, Jn, Jo, Jp, Jq, Jr, Js, Jt, Ju, Jv, Jw, Jy, Jz, Ka, Kb, Kc, Ke, Kf, Kg, Kh, Ki, Kj, Kk, Kl, Km, Kn, Ko, Kq, Kr, Ks, Kt, Ku, Kv, Kw, Kx, Ky, Kz, and_self, true_and, and_true, Mf, Mg, Mh, Mi, Mj, Mk, Ml, Mm, Mn, Mo, Mp, Mq, Mr, Ms, Int.reduceToNat, Int.reduceLT, Int.reduceEq, Int.reduceLE, List.getElem?_cons_zero, List.getElem?_cons_succ, La, Lb, Lc, Mt, Mu, Mv, Mw, gt_iff_lt, ge_iff_le, Ld, Le, Lf, Lg, Lh, Li, Mx, My, Lj, Ll, Lm, Ln, Lp, Lr, Ls, Lt, Lu, Lv, Mz, Na, keep1_grow]
      rw [hl1]
      simp only [Aa, Ab, Ac, Ad, Ae, Af, Ag, Ah, Ai, Aj, Ak, Al, Am, Ao, Ap, Aq, Ar, Au, Av, Aw, Ay, Az, Ba, Bb, Bc, Bd, Be, Bf, Bg, Bh, Bi, Bj, Bk, Bl, Bm, Bn, Bo, Bp, Bq, Br, Bs, Bt, Bv, Bw, Bx, Bz, Ca, Cb, Cc, Cd, Ce, Cf, Cg, Ch, Ci, Cj, Ck, Cl, Cm, Cn, Co, Cp, Cq, Cr, Cs, Ct, Cu, Cv, Cw, Cy, Cz, Da, Option.map_some, Db, Dc, De, Df, Dg, Dh, Di, Dj, Dk, Dl, Dm, Dn, Dp, Dq, Dr, Dt, Du, Dv, Dw, Dx, Dy, Dz, Ea, Eb, Ec, Ed, Ee, Ef, Eg, Eh, Ei, Ej, Ek, El, Em, Eo, Ep, Er, Es, Et, Eu, Ev, Ew, Ey, Ez, Fa, Fb, Fc, Fe, Ff, Fg, Fh, Fj, Fl, Fm, Fp, Fq, Fs, Ft, Fu, Fv, Fw, Fx, Nat.reduceEqDiff, Nat.reduceAdd, Nat.reduceMul, Nat.reduceLT, Nat.reduceLeDiff, ↓reduceIte, Lw, Lx, Nat.reduceBEq, Ly, Ma, Mb, Mc, reduceCtorEq, Md, Me, Fy, Fz, Ga, Gb, Gc, Gd, Ge, Gf, Gg, Gh, Gi, Gj, Gk, Gl, Gm, Gn, Gp, Gq, Gr, Gs, Gt, Gu, Gv, Gw, Gx, Gy, Gz, Ha, Hb, Hc, Hd, He, Hf, Hg, Hh, Hj, Hk, Hl, Hm, Hn, Ho, Hq, Hr, Hs, Ht, Hu, Hv, Hw, Hy, Hz, Ia, Ib, Ic, Ie, Ig, Ih, Ii, Ij, Ik, Il, Im, Io, Ip, Iq, Ir, Iu, Iv, Iw, Iy, Iz, Ja, Jb, Jc, Jd, Je, Jf, Jg, Jh, Ji, Jj, Jk, Jl, Jm, Jn, Jo, Jp, Jq, Jr, Js, Jt, Ju, Jv, Jw, Jy, Jz, Ka, Kb, Kc, Ke, Kf, Kg, Kh, Ki, Kj, Kk, Kl, Km, Kn, Ko, Kq, Kr, Ks, Kt, Ku, Kv, Kw, Kx, Ky, Kz, and_self, true_and, and_true, Mf, Mg, Mh, Mi, Mj, Mk, Ml, Mm, Mn, Mo, Mp, Mq, Mr, Ms, Int.reduceToNat, Int.reduceLT, Int.reduceEq, Int.reduceLE, List.getElem?_cons_zero, List.getElem?_cons_succ, La, Lb, Lc, Mt, Mu, Mv, Mw, gt_iff_lt, ge_iff_le, Ld, Le, Lf, Lg, Lh, Li, Mx, My, Lj, Ll, Lm, Ln, Lp, Lr, Ls, Lt, Lu, Lv, Mz, Na, keep1_grow, hap, op_call_deep _ _ h14 rfl, op_call_deep _ _ h15 rfl, op_call_deep _ _ h17 rfl, op_call_deep _ _ h8 h8d, hc1, hc2, hc3, hc4, hsane, Q.s, eqvS_self]

end Go.Proofs.Ytepedjncjehmgaa.Sim
namespace Go.Proofs.Ytepedjncjehmgaa.Sim
set_option linter.unusedSimpArgs false
set_option linter.unusedVariables false
open Go
set_option maxRecDepth 100000
set_option linter.unusedSimpArgs false

/-- A digit's number. -/
def hv (b : UInt8) : Option Nat := if 48 ≤ b ∧ b ≤ 57 then some (b.toNat - 48) else if 97 ≤ b ∧ b ≤ 102 then some (b.toNat - 87) else none

def pstep (ws : List Int) (k n : Nat) : List Int := ws.set (k / 8) (ibit .or .u32 (ishl .u32 (ws.getD (k / 8) 0) 4) n)
def pz : List UInt8 → Nat → List Int → Option (List Int)
  | [], _, ws => some ws
  | b :: r, k, ws => match hv b with
    | none => none
    | some n => pz r (k + 1) (pstep ws k n)

theorem pstep_len (ws k n) : (pstep ws k n).length = ws.length := by simp [pstep]

theorem hv_index (b : UInt8) : Lib.indexByte [48, 49, 50, 51, 52, 53, 54, 55, 56, 57, 97, 98, 99, 100, 101, 102] b = match hv b with | some n => (n : Int) | none => -1 := by
  have h : ∀ n < 256, Lib.indexByte [48, 49, 50, 51, 52, 53, 54, 55, 56, 57, 97, 98, 99, 100, 101, 102] (UInt8.ofNat n) = match hv (UInt8.ofNat n) with | some n => (n : Int) | none => -1 := by decide +kernel
  have := h b.toNat (UInt8.toNat_lt b)
  rwa [UInt8.ofNat_toNat] at this

theorem hv_lt (b : UInt8) (n : Nat) (h : hv b = some n) : n < 16 := by
  have hh : ∀ m < 256, ∀ n, hv (UInt8.ofNat m) = some n → n < 16 := by
    have : ∀ m < 256, (match hv (UInt8.ofNat m) with | some n => decide (n < 16) | none => true) = true := by decide +kernel
    intro m hm n hn
    have := this m hm
    rw [hn] at this
    simpa using this
  exact hh b.toNat (UInt8.toNat_lt b) n (by rwa [UInt8.ofNat_toNat])

theorem d_index24 {E : Env} (h24 : E 24 = some (.prim pIndexByte)) (s : List UInt8) (b : UInt8) (hp : Hp) : deepE E (Call E) 24 [.str s, .int .u8 (b.toNat : Int)] hp = some (.int .i64 (Lib.indexByte s b)) := by
  rw [deep_prim h24, deep_go]
  simp only [mapO_nil, mapO_cons, consO_some, snapA_int, snapA_str]
  have e : ((b.toNat : Int)).toNat.toUInt8 = b := by simp
  have := Call_prim (E := E) h24 [.str s, .int .u8 (b.toNat : Int)] []
  simp only [goD, this, pIndexByte, Option.map_some, e]
  rfl

theorem op24 {E : Env} (h24 : E 24 = some (.prim pIndexByte)) : ∃ g, E 24 = some g ∧ g.isDeep = true := ⟨_, h24, rfl⟩

theorem zero4 : u32s [0, 0, 0, 0] = [.int .u32 0, .int .u32 0, .int .u32 0, .int .u32 0] := rfl

theorem tdiv8 (k : Nat) (h : k < 1000) : IntKind.i64.wrap ((k : Int).tdiv 8) = ((k / 8 : Nat) : Int) := by
  rw [show ((k : Int).tdiv 8) = ((k / 8 : Nat) : Int) from rfl]
  exact wrap_i64 (by omega) (by omega)

theorem u32s_getD {ws : List Int} {j : Nat} (h : j < ws.length) : (u32s ws)[j]? = some (.int .u32 (ws.getD j 0)) := by
  simp [u32s, List.getD, h]

theorem loop7 {E : Env} (h24 : E 24 = some (.prim pIndexByte)) (s : List UInt8) (hs : s.length = 32) (b2 : Blk) (hb2 : b2 = .rows false 4 [.agg [.int .u32 0, .int .u32 0, .int .u32 0, .int .u32 0]]) : ∀ (n k : Nat) (ws : List Int), s.length = k + n → ws.length = 4 →
    match pz (s.drop k) k ws with
    | some ws' => blockR 0 [2, 4] (loopR E [0, 2, 4, 12, 13] l7_0 ⟨[(0, .str s), (2, .loc 2 0), (4, .loc 4 0), (12, .int .i64 32), (13, .int .i64 k)], [(2, b2), (4, .rows false 4 [.agg (u32s ws)])], []⟩) =
        some (.norm, ⟨[(2, .loc 2 0), (4, .loc 4 0)], [(2, b2), (4, .rows false 4 [.agg (u32s ws')])], []⟩)
    | none => ∃ st, blockR 0 [2, 4] (loopR E [0, 2, 4, 12, 13] l7_0 ⟨[(0, .str s), (2, .loc 2 0), (4, .loc 4 0), (12, .int .i64 32), (13, .int .i64 k)], [(2, b2), (4, .rows false 4 [.agg (u32s ws)])], []⟩) = some (.ret, st) ∧
        result st [.cell 2 true 4, .t 3] = some (.tup [.agg (u32s [0, 0, 0, 0]), .int .i64 7]) ∧ st.hp = [] := by
  subst hb2
  intro n
  induction n with
  | zero =>
    intro k ws hk hw
    have h1 : ¬ (k : Int) < 32 := by omega
    rw [List.drop_eq_nil_of_le (by omega), pz]
    simp only
    rw [loopR]
    conv => lhs; arg 3; arg 1; rw [l7_0]
    simp only [Aa, Ab, Ac, Ad, Ae, Af, Ag, Ah, Ai, Aj, Ak, Al, Am, Ao, Ap, Aq, Ar, Au, Av, Aw, Ay, Az, Ba, Bb, Bc, Bd, Be, Bf, Bg, Bh, Bi, Bj, Bk, Bl, Bm, Bn, Bo, Bp, Bq, Br, Bs, Bt, Bv, Bw, Bx, Bz, Ca, Cb, Cc, Cd, Ce, Cf, Cg, Ch, Ci, Cj, Ck, Cl, Cm, Cn, Co, Cp, Cq, Cr, Cs, Ct, Cu, Cv, Cw, Cy, Cz, Da, Option.map_some, Db, Dc, De, Df, Dg, Dh, Di, Dj, Dk, Dl, Dm, Dn, Dp, Dq, Dr, Dt, Du, Dv, Dw, Dx, Dy, Dz, Ea, Eb, Ec, Ed, Ee, Ef, Eg, Eh, Ei, Ej, Ek, El, Em, Eo, Ep, Er, Es, Et, Eu, Ev, Ew, Ey, Ez, Fa, Fb, Fc, Fe, Ff, Fg, Fh, Fj, Fl, Fm, Fp, Fq, Fs, Ft, Fu, Fv, Fw, Fx, Nat.reduceEqDiff, Nat.reduceAdd, Nat.reduceMul, Nat.reduceLT, Nat.reduceLeDiff, ↓reduceIte, Lw, Lx, Nat.reduceBEq, Ly, Ma, Mb, Mc, reduceCtorEq, Md, Me, Fy, Fz, Ga, Gb, Gc, Gd, Ge, Gf, Gg, Gh, Gi, Gj, Gk, Gl, Gm, Gn, Gp, Gq, Gr, Gs, Gt, Gu, Gv, Gw, Gx, Gy, Gz, Ha, Hb, Hc, Hd, He, Hf, Hg, Hh, Hj, Hk, Hl, Hm, Hn, Ho, Hq, Hr, Hs, Ht, Hu, Hv, Hw, Hy, Hz, Ia, Ib, Ic, Ie, Ig, Ih, Ii, Ij, Ik, Il, Im, Io, Ip, Iq, Ir, Iu, Iv, Iw, Iy, Iz, Ja, Jb, Jc, Jd, Je, Jf, Jg, Jh, Ji, Jj, Jk, Jl, Jm, Jn, Jo, Jp, Jq, Jr, Js, Jt, Ju, Jv, Jw, Jy, Jz, Ka, Kb, Kc, Ke, Kf, Kg, Kh, Ki, Kj, Kk, Kl, Km, Kn, Ko, Kq, Kr, Ks, Kt, Ku, Kv, Kw, Kx, Ky, Kz, and_self, true_and, and_true, Mf, Mg, Mh, Mi, Mj, Mk, Ml, Mm, Mn, Mo, Mp, Mq, Mr, Ms, Int.reduceToNat, Int.reduceLT, Int.reduceEq, Int.reduceLE, List.getElem?_cons_zero, List.getElem?_cons_succ, La, Lb, Lc, Mt, Mu, Mv, Mw, gt_iff_lt, ge_iff_le, Ld, Le, Lf, Lg, Lh, Li, Mx, My, Lj, Ll, Lm, Ln, Lp, Lr, Ls, Lt, Lu, Lv, Mz, Na, h1, decide_false]
  | succ n ih =>
    intro k ws hk hw
    have hlt : k < s.length := by omega
    have h1 : (k : Int) < 32 := by omega
    have hg : s[k]? = some s[k] := List.getElem?_eq_getElem hlt
    have hi := hv_index s[k]
    rw [List.drop_eq_getElem_cons hlt, pz]
    cases hv' : hv s[k] with
    | none =>
      simp only
      rw [hv'] at hi
      rw [loopR]
      conv => congr; ext; lhs; lhs; arg 3; arg 1; rw [l7_0]
      simp only [Aa, Ab, Ac, Ad, Ae, Af, Ag, Ah, Ai, Aj, Ak, Al, Am, Ao, Ap, Aq, Ar, Au, Av, Aw, Ay, Az, Ba, Bb, Bc, Bd, Be, Bf, Bg, Bh, Bi, Bj, Bk, Bl, Bm, Bn, Bo, Bp, Bq, Br, Bs, Bt, Bv, Bw, Bx, Bz, Ca, Cb, Cc, Cd, Ce, Cf, Cg, Ch, Ci, Cj, Ck, Cl, Cm, Cn, Co, Cp, Cq, Cr, Cs, Ct, Cu, Cv, Cw, Cy, Cz, Da, Option.map_some, Db, Dc, De, Df, Dg, Dh, Di, Dj, Dk, Dl, Dm, Dn, Dp, Dq, Dr, Dt, Du, Dv, Dw, Dx, Dy, Dz, Ea, Eb, Ec, Ed, Ee, Ef, Eg, Eh, Ei, Ej, Ek, El, Em, Eo, Ep, Er, Es, Et, Eu, Ev, Ew, Ey, Ez, Fa, Fb, Fc, Fe, Ff, Fg, Fh, Fj, Fl, Fm, Fp, Fq, Fs, Ft, Fu, Fv, Fw, Fx, Nat.reduceEqDiff, Nat.reduceAdd, Nat.reduceMul, Nat.reduceLT, Nat.reduceLeDiff, ↓reduceIte, Lw, Lx, Nat.reduceBEq, Ly, Ma, Mb, Mc, reduceCtorEq, Md, Me, Fy, Fz, Ga, Gb, Gc, Gd, Ge, Gf, Gg, Gh, Gi, Gj, Gk, Gl, Gm, Gn, Gp, Gq, Gr, Gs, Gt, Gu, Gv, Gw, Gx, Gy, Gz, Ha, Hb, Hc, Hd, He, Hf, Hg, Hh, Hj, Hk, Hl, Hm, Hn, Ho, Hq, Hr, Hs, Ht, Hu, Hv, Hw, Hy, Hz, Ia, Ib, Ic, Ie, Ig, Ih, Ii, Ij, Ik, Il, Im, Io, Ip, Iq, Ir, Iu, Iv, Iw, Iy, Iz, Ja, Jb, Jc, Jd, Je, Jf, Jg, Jh, Ji, Jj, Jk, Jl, Jm, Jn, Jo, Jp, Jq, Jr, Js, Jt, Ju, Jv, Jw, Jy, Jz, Ka, Kb, Kc, Ke, Kf, Kg, Kh, Ki, Kj, Kk, Kl, Km, Kn, Ko, Kq, Kr, Ks, Kt, Ku, Kv, Kw, Kx, Ky, Kz, and_self, true_and, and_true, Mf, Mg, Mh, Mi, Mj, Mk, Ml, Mm, Mn, Mo, Mp, Mq, Mr, Ms, Int.reduceToNat, Int.reduceLT, Int.reduceEq, Int.reduceLE, List.getElem?_cons_zero, List.getElem?_cons_succ, La, Lb, Lc, Mt, Mu, Mv, Mw, gt_iff_lt, ge_iff_le, Ld, Le, Lf, Lg, Lh, Li, Mx, My, Lj, Ll, Lm, Ln, Lp, Lr, Ls, Lt, Lu, Lv, Mz, Na, h1, decide_true, hg, op_call_deep _ _ h24 rfl, d_index24 h24, hi, Int.reduceNeg, decide_true, Int.reduceLT]
      exact ⟨_, rfl, rfl, rfl⟩
    | some m =>
      simp only
      rw [hv'] at hi
      have hm := hv_lt _ _ hv'
      have ih' := ih (k + 1) (pstep ws k m) (by omega) (by rw [pstep_len, hw])
      have h2 : ¬ (m : Int) < 0 := by omega
      have hq := tdiv8 k (by omega)
      have hj : k / 8 < ws.length := by omega
      have h3 : ((k / 8 : Nat) : Int) < 4 := by omega
      have hc := u32s_getD hj
      have h4 : k / 8 + 1 ≤ 4 := by omega
      have hw1 : IntKind.i64.wrap ((k : Int) + 1) = ((k + 1 : Nat) : Int) := wrap_i64 (by omega) (by omega)
      have hcm : IntKind.u32.wrap (m : Int) = m := wrap_u32 (by omega) (by omega)
      have hset : splice (u32s ws) (k / 8) [.int .u32 (ibit .or .u32 (ishl .u32 (ws.getD (k / 8) 0) 4) m)] = u32s (pstep ws k m) := by
        rw [splice_one _ _ _ (by rw [u32s_len]; exact hj)]
        simp [u32s, pstep, List.map_set]
      have key : blockR 0 [2, 4] (loopR E [0, 2, 4, 12, 13] l7_0 ⟨[(0, .str s), (2, .loc 2 0), (4, .loc 4 0), (12, .int .i64 32), (13, .int .i64 k)], [(2, .rows false 4 [.agg [.int .u32 0, .int .u32 0, .int .u32 0, .int .u32 0]]), (4, .rows false 4 [.agg (u32s ws)])], []⟩) =
          blockR 0 [2, 4] (loopR E [0, 2, 4, 12, 13] l7_0 ⟨[(0, .str s), (2, .loc 2 0), (4, .loc 4 0), (12, .int .i64 32), (13, .int .i64 ((k + 1 : Nat) : Int))], [(2, .rows false 4 [.agg [.int .u32 0, .int .u32 0, .int .u32 0, .int .u32 0]]), (4, .rows false 4 [.agg (u32s (pstep ws k m))])], []⟩) := by
        rw [loopR]
        conv => lhs; arg 3; arg 1; rw [l7_0]
        simp only [Aa, Ab, Ac, Ad, Ae, Af, Ag, Ah, Ai, Aj, Ak, Al, Am, Ao, Ap, Aq, Ar, Au, Av, Aw, Ay, Az, Ba, Bb, Bc, Bd, Be, Bf, Bg, Bh, Bi, Bj, Bk, Bl, Bm, Bn, Bo, Bp, Bq, Br, Bs, Bt, Bv, Bw, Bx, Bz, Ca, Cb, Cc, Cd, Ce, Cf, Cg, Ch, Ci, Cj, Ck, Cl, Cm, Cn, Co, Cp, Cq, Cr, Cs, Ct, Cu, Cv, Cw, Cy, Cz, Da, Option.map_some, Db, Dc, De, Df, Dg, Dh, Di, Dj, Dk, Dl, Dm, Dn, Dp, Dq, Dr, Dt, Du, Dv, Dw, Dx, Dy, Dz, Ea, Eb, Ec, Ed, Ee, Ef, Eg, Eh, Ei, Ej, Ek, El, Em, Eo, Ep, Er, Es, Et, Eu, Ev, Ew, Ey, Ez, Fa, Fb, Fc, Fe, Ff, Fg, Fh, Fj, Fl, Fm, Fp, Fq, Fs, Ft, Fu, Fv, Fw, Fx, Nat.reduceEqDiff, Nat.reduceAdd, Nat.reduceMul, Nat.reduceLT, Nat.reduceLeDiff, ↓reduceIte, Lw, Lx, Nat.reduceBEq, Ly, Ma, Mb, Mc, reduceCtorEq, Md, Me, Fy, Fz, Ga, Gb, Gc, Gd, Ge, Gf, Gg, Gh, Gi, Gj, Gk, Gl, Gm, Gn, Gp, Gq, Gr, Gs, Gt, Gu, Gv, Gw, Gx, Gy, Gz, Ha, Hb, Hc, Hd, He, Hf, Hg, Hh, Hj, Hk, Hl, Hm, Hn, Ho, Hq, Hr, Hs, Ht, Hu, Hv, Hw, Hy, Hz, Ia, Ib, Ic, Ie, Ig, Ih, Ii, Ij, Ik, Il, Im, Io, Ip, Iq, Ir, Iu, Iv, Iw, Iy, Iz, Ja, Jb, Jc, Jd, Je, Jf, Jg, Jh, Ji, Jj, Jk, Jl, Jm, Jn, Jo, Jp, Jq, Jr, Js, Jt, Ju, Jv, Jw, Jy, Jz, Ka, Kb, Kc, Ke, Kf, Kg, Kh, Ki, Kj, Kk, Kl, Km, Kn, Ko, Kq, Kr, Ks, Kt, Ku, Kv, Kw, Kx, Ky, Kz, and_self, true_and, and_true, Mf, Mg, Mh, Mi, Mj, Mk, Ml, Mm, Mn, Mo, Mp, Mq, Mr, Ms, Int.reduceToNat, Int.reduceLT, Int.reduceEq, Int.reduceLE, List.getElem?_cons_zero, List.getElem?_cons_succ, La, Lb, Lc, Mt, Mu, Mv, Mw, gt_iff_lt, ge_iff_le, Ld, Le, Lf, Lg, Lh, Li, Mx, My, Lj, Ll, Lm, Ln, Lp, Lr, Ls, Lt, Lu, Lv, Mz, Na, h1, decide_true, hg, op_call_deep _ _ h24 rfl, d_index24 h24, hi, h2, decide_false, hq, h3, hc, h4, hw1, hcm, mk_one, hset]
      rw [key]
      exact ih'
/-- What Parse answers. -/
def parseS (s : List UInt8) : S :=
  if s.length = 32 then match pz s 0 [0, 0, 0, 0] with | some ws => .tup [.agg (u32s ws), .int .i64 0] | none => .tup [.agg (u32s [0, 0, 0, 0]), .int .i64 7]
  else .tup [.agg (u32s [0, 0, 0, 0]), .int .i64 7]

theorem pz_len : ∀ (s : List UInt8) (k : Nat) (ws ws' : List Int), pz s k ws = some ws' → ws'.length = ws.length
  | [], _, ws, ws', h => by simp only [pz, Option.some.injEq] at h; rw [h]
  | b :: r, k, ws, ws', h => by
    simp only [pz] at h
    split at h
    · cases h
    · rw [pz_len r _ _ _ h, pstep_len]

theorem snap_tup4 (ws : List Int) (e : Int) (hp : Hp) : snapR hp (.tup [.agg (u32s ws), .int .i64 e]) = some (.tup [.agg (u32s ws), .int .i64 e]) := by
  simp only [snapR, mapO]
  rw [depth, rowBy_atom (x := .agg (u32s ws)) (by simp [S.atomR, u32s, S.atom])]
  rfl

theorem mapO_u32s (p hp) (ws : List Int) : mapO (snapC p hp depth) (u32s ws) = some (u32s ws) := by
  refine mapO_id fun x hx => ?_
  simp only [u32s, List.mem_map] at hx
  obtain ⟨n, _, rfl⟩ := hx
  exact snapC_atom rfl p hp 5

theorem out_tup4 (ws : List Int) (e : Int) : S.outable (.tup [.agg (u32s ws), .int .i64 e]) = true := rfl

theorem d_parse7 {E : Env} (h24 : E 24 = some (.prim pIndexByte)) (h7 : E 7 = some (.code c7)) (s : List UInt8) (hs : s.length ≤ 140737488351232) (hp : Hp) : deepE E (Call E) 7 [.str s] hp = some (parseS s) := by
  rw [deep_code h7 rfl, deep_go]
  simp only [mapO_nil, mapO_cons, consO_some, snapA_str, goD_some]
  rw [Call_mk E h7 _ _ rfl]
  by_cases h : s.length = 32
  · have hl := loop7 h24 s h _ rfl 32 0 [0, 0, 0, 0] (by omega) rfl
    rw [List.drop_zero] at hl
    unfold parseS
    rw [if_pos h]
    have h32 : ((s.length : Nat) : Int) = 32 := by omega
    cases hz : pz s 0 [0, 0, 0, 0] with
    | some ws =>
      rw [hz] at hl
      simp only [zero4, Int.cast_ofNat_Int] at hl
      have h4 := pz_len _ _ _ _ hz
      have htk : List.take 4 (u32s ws) = u32s ws := by rw [List.take_of_length_le]; rw [u32s_len, h4]; exact Nat.le_refl _
      have hsp : splice [S.int .u32 0, S.int .u32 0, S.int .u32 0, S.int .u32 0] 0 (u32s ws) = u32s ws := splice_all _ _ (by rw [u32s_len, h4]; rfl)
      have hok : (u32s ws).all S.okv = true := by simp [u32s, S.okv]
      have hlen : (u32s ws).length = 4 := by rw [u32s_len, h4]; rfl
      simp only [Aa, Ab, Ac, Ad, Ae, Af, Ag, Ah, Ai, Aj, Ak, Al, Am, Ao, Ap, Aq, Ar, Au, Av, Aw, Ay, Az, Ba, Bb, Bc, Bd, Be, Bf, Bg, Bh, Bi, Bj, Bk, Bl, Bm, Bn, Bo, Bp, Bq, Br, Bs, Bt, Bv, Bw, Bx, Bz, Ca, Cb, Cc, Cd, Ce, Cf, Cg, Ch, Ci, Cj, Ck, Cl, Cm, Cn, Co, Cp, Cq, Cr, Cs, Ct, Cu, Cv, Cw, Cy, Cz, Da, Option.map_some, Db, Dc, De, Df, Dg, Dh, Di, Dj, Dk, Dl, Dm, Dn, Dp, Dq, Dr, Dt, Du, Dv, Dw, Dx, Dy, Dz, Ea, Eb, Ec, Ed, Ee, Ef, Eg, Eh, Ei, Ej, Ek, El, Em, Eo, Ep, Er, Es, Et, Eu, Ev, Ew, Ey, Ez, Fa, Fb, Fc, Fe, Ff, Fg, Fh, Fj, Fl, Fm, Fp, Fq, Fs, Ft, Fu, Fv, Fw, Fx, Nat.reduceEqDiff, Nat.reduceAdd, Nat.reduceMul, Nat.reduceLT, Nat.reduceLeDiff, ↓reduceIte, Lw, Lx, Nat.reduceBEq, Ly, Ma, Mb, Mc, reduceCtorEq, Md, Me, Fy, Fz, Ga, Gb, Gc, Gd, Ge, Gf, Gg, Gh, Gi, Gj, Gk, Gl, Gm, Gn, Gp, Gq, Gr, Gs, Gt, Gu, Gv, Gw, Gx, Gy, Gz, Ha, Hb, Hc, Hd, He, Hf, Hg, Hh, Hj, Hk, Hl, Hm, Hn, Ho, Hq, Hr, Hs, Ht, Hu, Hv, Hw, Hy, Hz, Ia, Ib, Ic, Ie, Ig, Ih, Ii, Ij, Ik, Il, Im, Io, Ip, Iq, Ir, Iu, Iv, Iw, Iy, Iz, Ja, Jb, Jc, Jd, Je, Jf, Jg, Jh, Ji, Jj, Jk, Jl, Jm, Jn, Jo, Jp, Jq, Jr, Js, Jt, Ju, Jv, Jw, Jy, Jz, Ka, Kb, Kc, Ke, Kf, Kg, Kh, Ki, Kj, Kk, Kl, Km, Kn, Ko, Kq, Kr, Ks, Kt, Ku, Kv, Kw, Kx, Ky, Kz, and_self, true_and, and_true, Mf, Mg, Mh, Mi, Mj, Mk, Ml, Mm, Mn, Mo, Mp, Mq, Mr, Ms, Int.reduceToNat, Int.reduceLT, Int.reduceEq, Int.reduceLE, List.getElem?_cons_zero, List.getElem?_cons_succ, La, Lb, Lc, Mt, Mu, Mv, Mw, gt_iff_lt, ge_iff_le, Ld, Le, Lf, Lg, Lh, Li, Mx, My, Lj, Ll, Lm, Ln, Lp, Lr, Ls, Lt, Lu, Lv, Mz, Na, h32, ne_eq, not_true_eq_false, decide_false, h24, zero4]
      rw [hl]
      simp only [Aa, Ab, Ac, Ad, Ae, Af, Ag, Ah, Ai, Aj, Ak, Al, Am, Ao, Ap, Aq, Ar, Au, Av, Aw, Ay, Az, Ba, Bb, Bc, Bd, Be, Bf, Bg, Bh, Bi, Bj, Bk, Bl, Bm, Bn, Bo, Bp, Bq, Br, Bs, Bt, Bv, Bw, Bx, Bz, Ca, Cb, Cc, Cd, Ce, Cf, Cg, Ch, Ci, Cj, Ck, Cl, Cm, Cn, Co, Cp, Cq, Cr, Cs, Ct, Cu, Cv, Cw, Cy, Cz, Da, Option.map_some, Db, Dc, De, Df, Dg, Dh, Di, Dj, Dk, Dl, Dm, Dn, Dp, Dq, Dr, Dt, Du, Dv, Dw, Dx, Dy, Dz, Ea, Eb, Ec, Ed, Ee, Ef, Eg, Eh, Ei, Ej, Ek, El, Em, Eo, Ep, Er, Es, Et, Eu, Ev, Ew, Ey, Ez, Fa, Fb, Fc, Fe, Ff, Fg, Fh, Fj, Fl, Fm, Fp, Fq, Fs, Ft, Fu, Fv, Fw, Fx, Nat.reduceEqDiff, Nat.reduceAdd, Nat.reduceMul, Nat.reduceLT, Nat.reduceLeDiff, ↓reduceIte, Lw, Lx, Nat.reduceBEq, Ly, Ma, Mb, Mc, reduceCtorEq, Md, Me, Fy, Fz, Ga, Gb, Gc, Gd, Ge, Gf, Gg, Gh, Gi, Gj, Gk, Gl, Gm, Gn, Gp, Gq, Gr, Gs, Gt, Gu, Gv, Gw, Gx, Gy, Gz, Ha, Hb, Hc, Hd, He, Hf, Hg, Hh, Hj, Hk, Hl, Hm, Hn, Ho, Hq, Hr, Hs, Ht, Hu, Hv, Hw, Hy, Hz, Ia, Ib, Ic, Ie, Ig, Ih, Ii, Ij, Ik, Il, Im, Io, Ip, Iq, Ir, Iu, Iv, Iw, Iy, Iz, Ja, Jb, Jc, Jd, Je, Jf, Jg, Jh, Ji, Jj, Jk, Jl, Jm, Jn, Jo, Jp, Jq, Jr, Js, Jt, Ju, Jv, Jw, Jy, Jz, Ka, Kb, Kc, Ke, Kf, Kg, Kh, Ki, Kj, Kk, Kl, Km, Kn, Ko, Kq, Kr, Ks, Kt, Ku, Kv, Kw, Kx, Ky, Kz, and_self, true_and, and_true, Mf, Mg, Mh, Mi, Mj, Mk, Ml, Mm, Mn, Mo, Mp, Mq, Mr, Ms, Int.reduceToNat, Int.reduceLT, Int.reduceEq, Int.reduceLE, List.getElem?_cons_zero, List.getElem?_cons_succ, La, Lb, Lc, Mt, Mu, Mv, Mw, gt_iff_lt, ge_iff_le, Ld, Le, Lf, Lg, Lh, Li, Mx, My, Lj, Ll, Lm, Ln, Lp, Lr, Ls, Lt, Lu, Lv, Mz, Na, htk, hsp, hok, hlen, result, result.mapO', resV, loadR, cellsAt_eq, Option.bind_some, Option.map_some, mk, snap_tup4, out_tup4]
      rw [mapO_u32s]
      rfl
    | none =>
      rw [hz] at hl
      simp only [zero4, Int.cast_ofNat_Int] at hl
      obtain ⟨st, h2, h3, h4⟩ := hl
      simp only [Aa, Ab, Ac, Ad, Ae, Af, Ag, Ah, Ai, Aj, Ak, Al, Am, Ao, Ap, Aq, Ar, Au, Av, Aw, Ay, Az, Ba, Bb, Bc, Bd, Be, Bf, Bg, Bh, Bi, Bj, Bk, Bl, Bm, Bn, Bo, Bp, Bq, Br, Bs, Bt, Bv, Bw, Bx, Bz, Ca, Cb, Cc, Cd, Ce, Cf, Cg, Ch, Ci, Cj, Ck, Cl, Cm, Cn, Co, Cp, Cq, Cr, Cs, Ct, Cu, Cv, Cw, Cy, Cz, Da, Option.map_some, Db, Dc, De, Df, Dg, Dh, Di, Dj, Dk, Dl, Dm, Dn, Dp, Dq, Dr, Dt, Du, Dv, Dw, Dx, Dy, Dz, Ea, Eb, Ec, Ed, Ee, Ef, Eg, Eh, Ei, Ej, Ek, El, Em, Eo, Ep, Er, Es, Et, Eu, Ev, Ew, Ey, Ez, Fa, Fb, Fc, Fe, Ff, Fg, Fh, Fj, Fl, Fm, Fp, Fq, Fs, Ft, Fu, Fv, Fw, Fx, Nat.reduceEqDiff, Nat.reduceAdd, Nat.reduceMul, Nat.reduceLT, Nat.reduceLeDiff, ↓reduceIte, Lw, Lx, Nat.reduceBEq, Ly, Ma, Mb, Mc, reduceCtorEq, Md, Me, Fy, Fz, Ga, Gb, Gc, Gd, Ge, Gf, Gg, Gh, Gi, Gj, Gk, Gl, Gm, Gn, Gp, Gq, Gr, Gs, Gt, Gu, Gv, Gw, Gx, Gy, Gz, Ha, Hb, Hc, Hd, He, Hf, Hg, Hh, Hj, Hk, Hl, Hm, Hn, Ho, Hq, Hr, Hs, Ht, Hu, Hv, Hw, Hy, Hz, Ia, Ib, Ic, Ie, Ig, Ih, Ii, Ij, Ik, Il, Im, Io, Ip, Iq, Ir, Iu, Iv, Iw, Iy, Iz, Ja, Jb, Jc, Jd, Je, Jf, Jg, Jh, Ji, Jj, Jk, Jl, Jm, Jn, Jo, Jp, Jq, Jr, Js, Jt, Ju, Jv, Jw, Jy, Jz, Ka, Kb, Kc, Ke, Kf, Kg, Kh, Ki, Kj, Kk, Kl, Km, Kn, Ko, Kq, Kr, Ks, Kt, Ku, Kv, Kw, Kx, Ky, Kz, and_self, true_and, and_true, Mf, Mg, Mh, Mi, Mj, Mk, Ml, Mm, Mn, Mo, Mp, Mq, Mr, Ms, Int.reduceToNat, Int.reduceLT, Int.reduceEq, Int.reduceLE, List.getElem?_cons_zero, List.getElem?_cons_succ, La, Lb, Lc, Mt, Mu, Mv, Mw, gt_iff_lt, ge_iff_le, Ld, Le, Lf, Lg, Lh, Li, Mx, My, Lj, Ll, Lm, Ln, Lp, Lr, Ls, Lt, Lu, Lv, Mz, Na, h32, ne_eq, not_true_eq_false, decide_false, h24]
      rw [h2]
      simp only [Aa, Ab, Ac, Ad, Ae, Af, Ag, Ah, Ai, Aj, Ak, Al, Am, Ao, Ap, Aq, Ar, Au, Av, Aw, Ay, Az, Ba, Bb, Bc, Bd, Be, Bf, Bg, Bh, Bi, Bj, Bk, Bl, Bm, Bn, Bo, Bp, Bq, Br, Bs, Bt, Bv, Bw, Bx, Bz, Ca, Cb, Cc, Cd, Ce, Cf, Cg, Ch, Ci, Cj, Ck, Cl, Cm, Cn, Co, Cp, Cq, Cr, Cs, Ct, Cu, Cv, Cw, Cy, Cz, Da, Option.map_some, Db, Dc, De, Df, Dg, Dh, Di, Dj, Dk, Dl, Dm, Dn, Dp, Dq, Dr, Dt, Du, Dv, Dw, Dx, Dy, Dz, Ea, Eb, Ec, Ed, Ee, Ef, Eg, Eh, Ei, Ej, Ek, El, Em, Eo, Ep, Er, Es, Et, Eu, Ev, Ew, Ey, Ez, Fa, Fb, Fc, Fe, Ff, Fg, Fh, Fj, Fl, Fm, Fp, Fq, Fs, Ft, Fu, Fv, Fw, Fx, Nat.reduceEqDiff, Nat.reduceAdd, Nat.reduceMul, Nat.reduceLT, Nat.reduceLeDiff, ↓reduceIte, Lw, Lx, Nat.reduceBEq, Ly, Ma, Mb, Mc, reduceCtorEq, Md, Me, Fy, Fz, Ga, Gb, Gc, Gd, Ge, Gf, Gg, Gh, Gi, Gj, Gk, Gl, Gm, Gn, Gp, Gq, Gr, Gs, Gt, Gu, Gv, Gw, Gx, Gy, Gz, Ha, Hb, Hc, Hd, He, Hf, Hg, Hh, Hj, Hk, Hl, Hm, Hn, Ho, Hq, Hr, Hs, Ht, Hu, Hv, Hw, Hy, Hz, Ia, Ib, Ic, Ie, Ig, Ih, Ii, Ij, Ik, Il, Im, Io, Ip, Iq, Ir, Iu, Iv, Iw, Iy, Iz, Ja, Jb, Jc, Jd, Je, Jf, Jg, Jh, Ji, Jj, Jk, Jl, Jm, Jn, Jo, Jp, Jq, Jr, Js, Jt, Ju, Jv, Jw, Jy, Jz, Ka, Kb, Kc, Ke, Kf, Kg, Kh, Ki, Kj, Kk, Kl, Km, Kn, Ko, Kq, Kr, Ks, Kt, Ku, Kv, Kw, Kx, Ky, Kz, and_self, true_and, and_true, Mf, Mg, Mh, Mi, Mj, Mk, Ml, Mm, Mn, Mo, Mp, Mq, Mr, Ms, Int.reduceToNat, Int.reduceLT, Int.reduceEq, Int.reduceLE, List.getElem?_cons_zero, List.getElem?_cons_succ, La, Lb, Lc, Mt, Mu, Mv, Mw, gt_iff_lt, ge_iff_le, Ld, Le, Lf, Lg, Lh, Li, Mx, My, Lj, Ll, Lm, Ln, Lp, Lr, Ls, Lt, Lu, Lv, Mz, Na, h3, h4]
      rfl
  · have h1 : ¬ ((s.length : Int) = 32) := by omega
    unfold parseS
    rw [if_neg h]
    simp only [Aa, Ab, Ac, Ad, Ae, Af, Ag, Ah, Ai, Aj, Ak, Al, Am, Ao, Ap, Aq, Ar, Au, Av, Aw, Ay, Az, Ba, Bb, Bc, Bd, Be, Bf, Bg, Bh, Bi, Bj, Bk, Bl, Bm, Bn, Bo, Bp, Bq, Br, Bs, Bt, Bv, Bw, Bx, Bz, Ca, Cb, Cc, Cd, Ce, Cf, Cg, Ch, Ci, Cj, Ck, Cl, Cm, Cn, Co, Cp, Cq, Cr, Cs, Ct, Cu, Cv, Cw, Cy, Cz, Da, Option.map_some, Db, Dc, De, Df, Dg, Dh, Di, Dj, Dk, Dl, Dm, Dn, Dp, Dq, Dr, Dt, Du, Dv, Dw, Dx, Dy, Dz, Ea, Eb, Ec, Ed, Ee, Ef, Eg, Eh, Ei, Ej, Ek, El, Em, Eo, Ep, Er, Es, Et, Eu, Ev, Ew, Ey, Ez, Fa, Fb, Fc, Fe, Ff, Fg, Fh, Fj, Fl, Fm, Fp, Fq, Fs, Ft, Fu, Fv, Fw, Fx, Nat.reduceEqDiff, Nat.reduceAdd, Nat.reduceMul, Nat.reduceLT, Nat.reduceLeDiff, ↓reduceIte, Lw, Lx, Nat.reduceBEq, Ly, Ma, Mb, Mc, reduceCtorEq, Md, Me, Fy, Fz, Ga, Gb, Gc, Gd, Ge, Gf, Gg, Gh, Gi, Gj, Gk, Gl, Gm, Gn, Gp, Gq, Gr, Gs, Gt, Gu, Gv, Gw, Gx, Gy, Gz, Ha, Hb, Hc, Hd, He, Hf, Hg, Hh, Hj, Hk, Hl, Hm, Hn, Ho, Hq, Hr, Hs, Ht, Hu, Hv, Hw, Hy, Hz, Ia, Ib, Ic, Ie, Ig, Ih, Ii, Ij, Ik, Il, Im, Io, Ip, Iq, Ir, Iu, Iv, Iw, Iy, Iz, Ja, Jb, Jc, Jd, Je, Jf, Jg, Jh, Ji, Jj, Jk, Jl, Jm, Jn, Jo, Jp, Jq, Jr, Js, Jt, Ju, Jv, Jw, Jy, Jz, Ka, Kb, Kc, Ke, Kf, Kg, Kh, Ki, Kj, Kk, Kl, Km, Kn, Ko, Kq, Kr, Ks, Kt, Ku, Kv, Kw, Kx, Ky, Kz, and_self, true_and, and_true, Mf, Mg, Mh, Mi, Mj, Mk, Ml, Mm, Mn, Mo, Mp, Mq, Mr, Ms, Int.reduceToNat, Int.reduceLT, Int.reduceEq, Int.reduceLE, List.getElem?_cons_zero, List.getElem?_cons_succ, La, Lb, Lc, Mt, Mu, Mv, Mw, gt_iff_lt, ge_iff_le, Ld, Le, Lf, Lg, Lh, Li, Mx, My, Lj, Ll, Lm, Ln, Lp, Lr, Ls, Lt, Lu, Lv, Mz, Na, ne_eq, h1, not_false_eq_true, decide_true]
    rfl

theorem hv_digit (b : UInt8) : (48 ≤ b.toNat ∧ b.toNat ≤ 57 → hv b = some (b.toNat - 48)) ∧ (¬ (48 ≤ b.toNat ∧ b.toNat ≤ 57) → (97 ≤ b.toNat ∧ b.toNat ≤ 102) → hv b = some (b.toNat - 87)) ∧ (¬ (48 ≤ b.toNat ∧ b.toNat ≤ 57) → ¬ (97 ≤ b.toNat ∧ b.toNat ≤ 102) → hv b = none) := by
  have e1 : (48 ≤ b ∧ b ≤ 57) ↔ (48 ≤ b.toNat ∧ b.toNat ≤ 57) := by simp [UInt8.le_iff_toNat_le]
  have e2 : (97 ≤ b ∧ b ≤ 102) ↔ (97 ≤ b.toNat ∧ b.toNat ≤ 102) := by simp [UInt8.le_iff_toNat_le]
  refine ⟨fun h => ?_, fun h g => ?_, fun h g => ?_⟩
  · rw [hv, if_pos (e1.2 h)]
  · rw [hv, if_neg (fun x => h (e1.1 x)), if_pos (e2.2 g)]
  · rw [hv, if_neg (fun x => h (e1.1 x)), if_neg (fun x => g (e2.1 x))]

theorem loop11 {E : Env} (s : List UInt8) (hs : s.length = 32) (b2 : Blk) (hb2 : b2 = .rows false 4 [.agg [.int .u32 0, .int .u32 0, .int .u32 0, .int .u32 0]]) : ∀ (n k : Nat) (ws : List Int), s.length = k + n → ws.length = 4 →
    match pz (s.drop k) k ws with
    | some ws' => blockR 0 [2, 4] (loopR E [0, 2, 4, 5] l11_0 ⟨[(0, .str s), (2, .loc 2 0), (4, .loc 4 0), (5, .int .i64 k)], [(2, b2), (4, .rows false 4 [.agg (u32s ws)])], []⟩) =
        some (.norm, ⟨[(2, .loc 2 0), (4, .loc 4 0)], [(2, b2), (4, .rows false 4 [.agg (u32s ws')])], []⟩)
    | none => ∃ st, blockR 0 [2, 4] (loopR E [0, 2, 4, 5] l11_0 ⟨[(0, .str s), (2, .loc 2 0), (4, .loc 4 0), (5, .int .i64 k)], [(2, b2), (4, .rows false 4 [.agg (u32s ws)])], []⟩) = some (.ret, st) ∧
        result st [.cell 2 true 4, .t 3] = some (.tup [.agg (u32s [0, 0, 0, 0]), .int .i64 7]) ∧ st.hp = [] := by
  subst hb2
  intro n
  induction n with
  | zero =>
    intro k ws hk hw
    have h1 : ¬ (k : Int) < 32 := by omega
    rw [List.drop_eq_nil_of_le (by omega), pz]
    simp only
    rw [loopR]
    conv => lhs; arg 3; arg 1; rw [l11_0]
    simp only [Aa, Ab, Ac, Ad, Ae, Af, Ag, Ah, Ai, Aj, Ak, Al, Am, Ao, Ap, Aq, Ar, Au, Av, Aw, Ay, Az, Ba, Bb, Bc, Bd, Be, Bf, Bg, Bh, Bi, Bj, Bk, Bl, Bm, Bn, Bo, Bp, Bq, Br, Bs, Bt, Bv, Bw, Bx, Bz, Ca, Cb, Cc, Cd, Ce, Cf, Cg, Ch, Ci, Cj, Ck, Cl, Cm, Cn, Co, Cp, Cq, Cr, Cs, Ct, Cu, Cv, Cw, Cy, Cz, Da, Option.map_some, Db, Dc, De, Df, Dg, Dh, Di, Dj, Dk, Dl, Dm, Dn, Dp, Dq, Dr, Dt, Du, Dv, Dw, Dx, Dy, Dz, Ea, Eb, Ec, Ed, Ee, Ef, Eg, Eh, Ei, Ej, Ek, El, Em, Eo, Ep, Er, Es, Et, Eu, Ev, Ew, Ey, Ez, Fa, Fb, Fc, Fe, Ff, Fg, Fh, Fj, Fl, Fm, Fp, Fq, Fs, Ft, Fu, Fv, Fw, Fx, Nat.reduceEqDiff, Nat.reduceAdd, Nat.reduceMul, Nat.reduceLT, Nat.reduceLeDiff, ↓reduceIte, Lw, Lx, Nat.reduceBEq, Ly, Ma, Mb, Mc, reduceCtorEq, Md, Me, Fy, Fz, Ga, Gb, Gc, Gd, Ge, Gf, Gg, Gh, Gi, Gj, Gk, Gl, Gm, Gn, Gp, Gq, Gr, Gs, Gt, Gu, Gv, Gw, Gx, Gy, Gz, Ha, Hb, Hc, Hd, He, Hf, Hg, Hh, Hj, Hk, Hl, Hm, Hn, Ho, Hq, Hr, Hs, Ht, Hu, Hv, Hw, Hy, Hz, Ia, Ib, Ic, Ie, Ig, Ih, Ii, Ij, Ik, Il, Im, Io, Ip, Iq, Ir, Iu, Iv, Iw, Iy, Iz, Ja, Jb, Jc, Jd, Je, Jf, Jg, Jh, Ji, Jj, Jk, Jl, Jm, Jn, Jo, Jp, Jq, Jr, Js, Jt, Ju, Jv, Jw, Jy, Jz, Ka, Kb, Kc, Ke, Kf, Kg, Kh, Ki, Kj, Kk, Kl, Km, Kn, Ko, Kq, Kr, Ks, Kt, Ku, Kv, Kw, Kx, Ky, Kz, and_self, true_and, and_true, Mf, Mg, Mh, Mi, Mj, Mk, Ml, Mm, Mn, Mo, Mp, Mq, Mr, Ms, Int.reduceToNat, Int.reduceLT, Int.reduceEq, Int.reduceLE, List.getElem?_cons_zero, List.getElem?_cons_succ, La, Lb, Lc, Mt, Mu, Mv, Mw, gt_iff_lt, ge_iff_le, Ld, Le, Lf, Lg, Lh, Li, Mx, My, Lj, Ll, Lm, Ln, Lp, Lr, Ls, Lt, Lu, Lv, Mz, Na, h1, decide_false]
  | succ n ih =>
    intro k ws hk hw
    have hlt : k < s.length := by omega
    have h1 : (k : Int) < 32 := by omega
    have hg : s[k]? = some s[k] := List.getElem?_eq_getElem hlt
    obtain ⟨v1, v2, v3⟩ := hv_digit s[k]
    rw [List.drop_eq_getElem_cons hlt, pz]
    have hb := UInt8.toNat_lt s[k]
    by_cases hd : 48 ≤ s[k].toNat ∧ s[k].toNat ≤ 57
    · have c1 : (48 : Int) ≤ (s[k].toNat : Int) := by omega
      have c2 : (s[k].toNat : Int) ≤ 57 := by omega
      rw [v1 hd]
      simp only
      have ih' := ih (k + 1) (pstep ws k (s[k].toNat - 48)) (by omega) (by rw [pstep_len, hw])
      have hq := tdiv8 k (by omega)
      have hj : k / 8 < ws.length := by omega
      have h3 : ((k / 8 : Nat) : Int) < 4 := by omega
      have hc := u32s_getD hj
      have h4 : k / 8 + 1 ≤ 4 := by omega
      have hw1 : IntKind.i64.wrap ((k : Int) + 1) = ((k + 1 : Nat) : Int) := wrap_i64 (by omega) (by omega)
      have hcm : IntKind.u32.wrap (IntKind.u8.wrap ((s[k].toNat : Int) - 48)) = ((s[k].toNat - 48 : Nat) : Int) := by
        rw [show (s[k].toNat : Int) - 48 = ((s[k].toNat - 48 : Nat) : Int) by omega, wrap_u8 (by omega) (by omega)]
        exact wrap_u32 (by omega) (by omega)
      have hset : splice (u32s ws) (k / 8) [.int .u32 (ibit .or .u32 (ishl .u32 (ws.getD (k / 8) 0) 4) ((s[k].toNat - 48 : Nat) : Int))] = u32s (pstep ws k (s[k].toNat - 48)) := by
        rw [splice_one _ _ _ (by rw [u32s_len]; exact hj)]
        simp [u32s, pstep, List.map_set]
      have key : blockR 0 [2, 4] (loopR E [0, 2, 4, 5] l11_0 ⟨[(0, .str s), (2, .loc 2 0), (4, .loc 4 0), (5, .int .i64 k)], [(2, .rows false 4 [.agg [.int .u32 0, .int .u32 0, .int .u32 0, .int .u32 0]]), (4, .rows false 4 [.agg (u32s ws)])], []⟩) =
          blockR 0 [2, 4] (loopR E [0, 2, 4, 5] l11_0 ⟨[(0, .str s), (2, .loc 2 0), (4, .loc 4 0), (5, .int .i64 ((k + 1 : Nat) : Int))], [(2, .rows false 4 [.agg [.int .u32 0, .int .u32 0, .int .u32 0, .int .u32 0]]), (4, .rows false 4 [.agg (u32s (pstep ws k (s[k].toNat - 48)))])], []⟩) := by
        rw [loopR]
        conv => lhs; arg 3; arg 1; rw [l11_0]
        simp only [Aa, Ab, Ac, Ad, Ae, Af, Ag, Ah, Ai, Aj, Ak, Al, Am, Ao, Ap, Aq, Ar, Au, Av, Aw, Ay, Az, Ba, Bb, Bc, Bd, Be, Bf, Bg, Bh, Bi, Bj, Bk, Bl, Bm, Bn, Bo, Bp, Bq, Br, Bs, Bt, Bv, Bw, Bx, Bz, Ca, Cb, Cc, Cd, Ce, Cf, Cg, Ch, Ci, Cj, Ck, Cl, Cm, Cn, Co, Cp, Cq, Cr, Cs, Ct, Cu, Cv, Cw, Cy, Cz, Da, Option.map_some, Db, Dc, De, Df, Dg, Dh, Di, Dj, Dk, Dl, Dm, Dn, Dp, Dq, Dr, Dt, Du, Dv, Dw, Dx, Dy, Dz, Ea, Eb, Ec, Ed, Ee, Ef, Eg, Eh, Ei, Ej, Ek, El, Em, Eo, Ep, Er, Es, Et, Eu, Ev, Ew, Ey, Ez, Fa, Fb, Fc, Fe, Ff, Fg, Fh, Fj, Fl, Fm, Fp, Fq, Fs, Ft, Fu, Fv, Fw, Fx, Nat.reduceEqDiff, Nat.reduceAdd, Nat.reduceMul, Nat.reduceLT, Nat.reduceLeDiff, ↓reduceIte, Lw, Lx, Nat.reduceBEq, Ly, Ma, Mb, Mc, reduceCtorEq, Md, Me, Fy, Fz, Ga, Gb, Gc, Gd, Ge, Gf, Gg, Gh, Gi, Gj, Gk, Gl, Gm, Gn, Gp, Gq, Gr, Gs, Gt, Gu, Gv, Gw, Gx, Gy, Gz, Ha, Hb, Hc, Hd, He, Hf, Hg, Hh, Hj, Hk, Hl, Hm, Hn, Ho, Hq, Hr, Hs, Ht, Hu, Hv, Hw, Hy, Hz, Ia, Ib, Ic, Ie, Ig, Ih, Ii, Ij, Ik, Il, Im, Io, Ip, Iq, Ir, Iu, Iv, Iw, Iy, Iz, Ja, Jb, Jc, Jd, Je, Jf, Jg, Jh, Ji, Jj, Jk, Jl, Jm, Jn, Jo, Jp, Jq, Jr, Js, Jt, Ju, Jv, Jw, Jy, Jz, Ka, Kb, Kc, Ke, Kf, Kg, Kh, Ki, Kj, Kk, Kl, Km, Kn, Ko, Kq, Kr, Ks, Kt, Ku, Kv, Kw, Kx, Ky, Kz, and_self, true_and, and_true, Mf, Mg, Mh, Mi, Mj, Mk, Ml, Mm, Mn, Mo, Mp, Mq, Mr, Ms, Int.reduceToNat, Int.reduceLT, Int.reduceEq, Int.reduceLE, List.getElem?_cons_zero, List.getElem?_cons_succ, La, Lb, Lc, Mt, Mu, Mv, Mw, gt_iff_lt, ge_iff_le, Ld, Le, Lf, Lg, Lh, Li, Mx, My, Lj, Ll, Lm, Ln, Lp, Lr, Ls, Lt, Lu, Lv, Mz, Na, h1, decide_true, hg, c1, c2, hq, h3, hc, h4, hw1, hcm, mk_one, hset]
      rw [key]
      exact ih'
    · by_cases ha : 97 ≤ s[k].toNat ∧ s[k].toNat ≤ 102
      · have c1 : (48 : Int) ≤ (s[k].toNat : Int) := by omega
        have c2 : ¬ (s[k].toNat : Int) ≤ 57 := by omega
        have c3 : (97 : Int) ≤ (s[k].toNat : Int) := by omega
        have c4 : (s[k].toNat : Int) ≤ 102 := by omega
        rw [v2 hd ha]
        simp only
        have ih' := ih (k + 1) (pstep ws k (s[k].toNat - 87)) (by omega) (by rw [pstep_len, hw])
        have hq := tdiv8 k (by omega)
        have hj : k / 8 < ws.length := by omega
        have h3 : ((k / 8 : Nat) : Int) < 4 := by omega
        have hc := u32s_getD hj
        have h4 : k / 8 + 1 ≤ 4 := by omega
        have hw1 : IntKind.i64.wrap ((k : Int) + 1) = ((k + 1 : Nat) : Int) := wrap_i64 (by omega) (by omega)
        have hcm : IntKind.u32.wrap (IntKind.u32.wrap (IntKind.u8.wrap ((s[k].toNat : Int) - 97)) + 10) = ((s[k].toNat - 87 : Nat) : Int) := by
          rw [show (s[k].toNat : Int) - 97 = ((s[k].toNat - 97 : Nat) : Int) by omega, wrap_u8 (by omega) (by omega), @wrap_u32 ((s[k].toNat - 97 : Nat) : Int) (by omega) (by omega)]
          rw [show ((s[k].toNat - 97 : Nat) : Int) + 10 = ((s[k].toNat - 87 : Nat) : Int) by omega]
          exact wrap_u32 (by omega) (by omega)
        have hset : splice (u32s ws) (k / 8) [.int .u32 (ibit .or .u32 (ishl .u32 (ws.getD (k / 8) 0) 4) ((s[k].toNat - 87 : Nat) : Int))] = u32s (pstep ws k (s[k].toNat - 87)) := by
          rw [splice_one _ _ _ (by rw [u32s_len]; exact hj)]
          simp [u32s, pstep, List.map_set]
        have key : blockR 0 [2, 4] (loopR E [0, 2, 4, 5] l11_0 ⟨[(0, .str s), (2, .loc 2 0), (4, .loc 4 0), (5, .int .i64 k)], [(2, .rows false 4 [.agg [.int .u32 0, .int .u32 0, .int .u32 0, .int .u32 0]]), (4, .rows false 4 [.agg (u32s ws)])], []⟩) =
            blockR 0 [2, 4] (loopR E [0, 2, 4, 5] l11_0 ⟨[(0, .str s), (2, .loc 2 0), (4, .loc 4 0), (5, .int .i64 ((k + 1 : Nat) : Int))], [(2, .rows false 4 [.agg [.int .u32 0, .int .u32 0, .int .u32 0, .int .u32 0]]), (4, .rows false 4 [.agg (u32s (pstep ws k (s[k].toNat - 87)))])], []⟩) := by
          rw [loopR]
          conv => lhs; arg 3; arg 1; rw [l11_0]
          simp only [Aa, Ab, Ac, Ad, Ae, Af, Ag, Ah, Ai, Aj, Ak, Al, Am, Ao, Ap, Aq, Ar, Au, Av, Aw, Ay, Az, Ba, Bb, Bc, Bd, Be, Bf, Bg, Bh, Bi, Bj, Bk, Bl, Bm, Bn, Bo, Bp, Bq, Br, Bs, Bt, Bv, Bw, Bx, Bz, Ca, Cb, Cc, Cd, Ce, Cf, Cg, Ch, Ci, Cj, Ck, Cl, Cm, Cn, Co, Cp, Cq, Cr, Cs, Ct, Cu, Cv, Cw, Cy, Cz, Da, Option.map_some, Db, Dc, De, Df, Dg, Dh, Di, Dj, Dk, Dl, Dm, Dn, Dp, Dq, Dr, Dt, Du, Dv, Dw, Dx, Dy, Dz, Ea, Eb, Ec, Ed, Ee, Ef, Eg, Eh, Ei, Ej, Ek, El, Em, Eo, Ep, Er, Es, Et, Eu, Ev, Ew, Ey, Ez, Fa, Fb, Fc, Fe, Ff, Fg, Fh, Fj, Fl, Fm, Fp, Fq, Fs, Ft, Fu, Fv, Fw, Fx, Nat.reduceEqDiff, Nat.reduceAdd, Nat.reduceMul, Nat.reduceLT, Nat.reduceLeDiff, ↓reduceIte, Lw, Lx, Nat.reduceBEq, Ly, Ma, Mb, Mc, reduceCtorEq, Md, Me, Fy, Fz, Ga, Gb, Gc, Gd, Ge, Gf, Gg, Gh, Gi, Gj, Gk, Gl, Gm, Gn, Gp, Gq, Gr, Gs, Gt, Gu, Gv, Gw, Gx, Gy, Gz, Ha, Hb, Hc, Hd, He, Hf, Hg, Hh, Hj, Hk, Hl, Hm, Hn, Ho, Hq, Hr, Hs, Ht, Hu, Hv, Hw, Hy, Hz, Ia, Ib, Ic, Ie, Ig, Ih, Ii, Ij, Ik, Il, Im, Io, Ip, Iq, Ir, Iu, Iv, Iw, Iy, Iz, Ja, Jb, Jc, Jd, Je, Jf, Jg, Jh, Ji, Jj, Jk, Jl, Jm, Jn, Jo, Jp, Jq, Jr, Js, Jt, Ju, Jv, Jw, Jy, Jz, Ka, Kb, Kc, Ke, Kf, Kg, Kh, Ki, Kj, Kk, Kl, Km, Kn, Ko, Kq, Kr, Ks, Kt, Ku, Kv, Kw, Kx, Ky, Kz, and_self, true_and, and_true, Mf, Mg, Mh, Mi, Mj, Mk, Ml, Mm, Mn, Mo, Mp, Mq, Mr, Ms, Int.reduceToNat, Int.reduceLT, Int.reduceEq, Int.reduceLE, List.getElem?_cons_zero, List.getElem?_cons_succ, La, Lb, Lc, Mt, Mu, Mv, Mw, gt_iff_lt, ge_iff_le, Ld, Le, Lf, Lg, Lh, Li, Mx, My, Lj, Ll, Lm, Ln, Lp, Lr, Ls, Lt, Lu, Lv, Mz, Na, h1, decide_true, decide_false, hg, c1, c2, c3, c4, hq, h3, hc, h4, hw1, hcm, mk_one, hset]
        rw [key]
        exact ih'
      · rw [v3 hd ha]
        simp only
        rw [loopR]
        conv => congr; ext; lhs; lhs; arg 3; arg 1; rw [l11_0]
        by_cases c1 : (48 : Int) ≤ (s[k].toNat : Int)
        · have c2 : ¬ (s[k].toNat : Int) ≤ 57 := by omega
          by_cases c3 : (97 : Int) ≤ (s[k].toNat : Int)
          · have c4 : ¬ (s[k].toNat : Int) ≤ 102 := by omega
            simp only [Aa, Ab, Ac, Ad, Ae, Af, Ag, Ah, Ai, Aj, Ak, Al, Am, Ao, Ap, Aq, Ar, Au, Av, Aw, Ay, Az, Ba, Bb, Bc, Bd, Be, Bf, Bg, Bh, Bi, Bj, Bk, Bl, Bm, Bn, Bo, Bp, Bq, Br, Bs, Bt, Bv, Bw, Bx, Bz, Ca, Cb, Cc, Cd, Ce, Cf, Cg, Ch, Ci, Cj, Ck, Cl, Cm, Cn, Co, Cp, Cq, Cr, Cs, Ct, Cu, Cv, Cw, Cy, Cz, Da, Option.map_some, Db, Dc, De, Df, Dg, Dh, Di, Dj, Dk, Dl, Dm, Dn, Dp, Dq, Dr, Dt, Du, Dv, Dw, Dx, Dy, Dz, Ea, Eb, Ec, Ed, Ee, Ef, Eg, Eh, Ei, Ej, Ek, El, Em, Eo, Ep, Er, Es, Et, Eu, Ev, Ew, Ey, Ez, Fa, Fb, Fc, Fe, Ff, Fg, Fh, Fj, Fl, Fm, Fp, Fq, Fs, Ft, Fu, Fv, Fw, Fx, Nat.reduceEqDiff, Nat.reduceAdd, Nat.reduceMul, Nat.reduceLT, Nat.reduceLeDiff, ↓reduceIte, Lw, Lx, Nat.reduceBEq, Ly, Ma, Mb, Mc, reduceCtorEq, Md, Me, Fy, Fz, Ga, Gb, Gc, Gd, Ge, Gf, Gg, Gh, Gi, Gj, Gk, Gl, Gm, Gn, Gp, Gq, Gr, Gs, Gt, Gu, Gv, Gw, Gx, Gy, Gz, Ha, Hb, Hc, Hd, He, Hf, Hg, Hh, Hj, Hk, Hl, Hm, Hn, Ho, Hq, Hr, Hs, Ht, Hu, Hv, Hw, Hy, Hz, Ia, Ib, Ic, Ie, Ig, Ih, Ii, Ij, Ik, Il, Im, Io, Ip, Iq, Ir, Iu, Iv, Iw, Iy, Iz, Ja, Jb, Jc, Jd, Je, Jf, Jg, Jh, Ji, Jj, Jk, Jl, Jm, Jn, Jo, Jp, Jq, Jr, Js, Jt, Ju, Jv, Jw, Jy, Jz, Ka, Kb, Kc, Ke, Kf, Kg, Kh, Ki, Kj, Kk, Kl, Km, Kn, Ko, Kq, Kr, Ks, Kt, Ku, Kv, Kw, Kx, Ky, Kz, and_self, true_and, and_true, Mf, Mg, Mh, Mi, Mj, Mk, Ml, Mm, Mn, Mo, Mp, Mq, Mr, Ms, Int.reduceToNat, Int.reduceLT, Int.reduceEq, Int.reduceLE, List.getElem?_cons_zero, List.getElem?_cons_succ, La, Lb, Lc, Mt, Mu, Mv, Mw, gt_iff_lt, ge_iff_le, Ld, Le, Lf, Lg, Lh, Li, Mx, My, Lj, Ll, Lm, Ln, Lp, Lr, Ls, Lt, Lu, Lv, Mz, Na, h1, decide_true, decide_false, hg, c1, c2, c3, c4]
            exact ⟨_, rfl, rfl, rfl⟩
          · simp only [Aa, Ab, Ac, Ad, Ae, Af, Ag, Ah, Ai, Aj, Ak, Al, Am, Ao, Ap, Aq, Ar, Au, Av, Aw, Ay, Az, Ba, Bb, Bc, Bd, Be, Bf, Bg, Bh, Bi, Bj, Bk, Bl, Bm, Bn, Bo, Bp, Bq, Br, Bs, Bt, Bv, Bw, Bx, Bz, Ca, Cb, Cc, Cd, Ce, Cf, Cg, Ch, Ci, Cj, Ck, Cl, Cm, Cn, Co, Cp, Cq, Cr, Cs, Ct, Cu, Cv, Cw, Cy, Cz, Da, Option.map_some, Db, Dc, De, Df, Dg, Dh, Di, Dj, Dk, Dl, Dm, Dn, Dp, Dq, Dr, Dt, Du, Dv, Dw, Dx, Dy, Dz, Ea, Eb, Ec, Ed, Ee, Ef, Eg, Eh, Ei, Ej, Ek, El, Em, Eo, Ep, Er, Es, Et, Eu, Ev, Ew, Ey, Ez, Fa, Fb, Fc, Fe, Ff, Fg, Fh, Fj, Fl, Fm, Fp, Fq, Fs, Ft, Fu, Fv, Fw, Fx, Nat.reduceEqDiff, Nat.reduceAdd, Nat.reduceMul, Nat.reduceLT, Nat.reduceLeDiff, ↓reduceIte, Lw, Lx, Nat.reduceBEq, Ly, Ma, Mb, Mc, reduceCtorEq, Md, Me, Fy, Fz, Ga, Gb, Gc, Gd, Ge, Gf, Gg, Gh, Gi, Gj, Gk, Gl, Gm, Gn, Gp, Gq, Gr, Gs, Gt, Gu, Gv, Gw, Gx, Gy, Gz, Ha, Hb, Hc, Hd, He, Hf, Hg, Hh, Hj, Hk, Hl, Hm, Hn, Ho, Hq, Hr, Hs, Ht, Hu, Hv, Hw, Hy, Hz, Ia, Ib, Ic, Ie, Ig, Ih, Ii, Ij, Ik, Il, Im, Io, Ip, Iq, Ir, Iu, Iv, Iw, Iy, Iz, Ja, Jb, Jc, Jd, Je, Jf, Jg, Jh, Ji, Jj, Jk, Jl, Jm, Jn, Jo, Jp, Jq, Jr, Js, Jt, Ju, Jv, Jw, Jy, Jz, Ka, Kb, Kc, Ke, Kf, Kg, Kh, Ki, Kj, Kk, Kl, Km, Kn, Ko, Kq, Kr, Ks, Kt, Ku, Kv, Kw, Kx, Ky, Kz, and_self, true_and, and_true, Mf, Mg, Mh, Mi, Mj, Mk, Ml, Mm, Mn, Mo, Mp, Mq, Mr, Ms, Int.reduceToNat, Int.reduceLT, Int.reduceEq, Int.reduceLE, List.getElem?_cons_zero, List.getElem?_cons_succ, La, Lb, Lc, Mt, Mu, Mv, Mw, gt_iff_lt, ge_iff_le, Ld, Le, Lf, Lg, Lh, Li, Mx, My, Lj, Ll, Lm, Ln, Lp, Lr, Ls, Lt, Lu, Lv, Mz, Na, h1, decide_true, decide_false, hg, c1, c2, c3]
            exact ⟨_, rfl, rfl, rfl⟩
        · have c3 : ¬ (97 : Int) ≤ (s[k].toNat : Int) := by omega
          simp only [Aa, Ab, Ac, Ad, Ae, Af, Ag, Ah, Ai, Aj, Ak, Al, Am, Ao, Ap, Aq, Ar, Au, Av, Aw, Ay, Az, Ba, Bb, Bc, Bd, Be, Bf, Bg, Bh, Bi, Bj, Bk, Bl, Bm, Bn, Bo, Bp, Bq, Br, Bs, Bt, Bv, Bw, Bx, Bz, Ca, Cb, Cc, Cd, Ce, Cf, Cg, Ch, Ci, Cj, Ck, Cl, Cm, Cn, Co, Cp, Cq, Cr, Cs, Ct, Cu, Cv, Cw, Cy, Cz, Da, Option.map_some, Db, Dc, De, Df, Dg, Dh, Di, Dj, Dk, Dl, Dm, Dn, Dp, Dq, Dr, Dt, Du, Dv, Dw, Dx, Dy, Dz, Ea, Eb, Ec, Ed, Ee, Ef, Eg, Eh, Ei, Ej, Ek, El, Em, Eo, Ep, Er, Es, Et, Eu, Ev, Ew, Ey, Ez, Fa, Fb, Fc, Fe, Ff, Fg, Fh, Fj, Fl, Fm, Fp, Fq, Fs, Ft, Fu, Fv, Fw, Fx, Nat.reduceEqDiff, Nat.reduceAdd, Nat.reduceMul, Nat.reduceLT, Nat.reduceLeDiff, ↓reduceIte, Lw, Lx, Nat.reduceBEq, Ly, Ma, Mb, Mc, reduceCtorEq, Md, Me, Fy, Fz, Ga, Gb, Gc, Gd, Ge, Gf, Gg, Gh, Gi, Gj, Gk, Gl, Gm, Gn, Gp, Gq, Gr, Gs, Gt, Gu, Gv, Gw, Gx, Gy, Gz, Ha, Hb, Hc, Hd, He, Hf, Hg, Hh, Hj, Hk, Hl, Hm, Hn, Ho, Hq, Hr, Hs, Ht, Hu, Hv, Hw, Hy, Hz, Ia, Ib, Ic, Ie, Ig, Ih, Ii, Ij, Ik, Il, Im, Io, Ip, Iq, Ir, Iu, Iv, Iw, Iy, Iz, Ja, Jb, Jc, Jd, Je, Jf, Jg, Jh, Ji, Jj, Jk, Jl, Jm, Jn, Jo, Jp, Jq, Jr, Js, Jt, Ju, Jv, Jw, Jy, Jz, Ka, Kb, Kc, Ke, Kf, Kg, Kh, Ki, Kj, Kk, Kl, Km, Kn, Ko, Kq, Kr, Ks, Kt, Ku, Kv, Kw, Kx, Ky, Kz, and_self, true_and, and_true, Mf, Mg, Mh, Mi, Mj, Mk, Ml, Mm, Mn, Mo, Mp, Mq, Mr, Ms, Int.reduceToNat, Int.reduceLT, Int.reduceEq, Int.reduceLE, List.getElem?_cons_zero, List.getElem?_cons_succ, La, Lb, Lc, Mt, Mu, Mv, Mw, gt_iff_lt, ge_iff_le, Ld, Le, Lf, Lg, Lh, Li, Mx, My, Lj, Ll, Lm, Ln, Lp, Lr, Ls, Lt, Lu, Lv, Mz, Na, h1, decide_true, decide_false, hg, c1, c3]
          exact ⟨_, rfl, rfl, rfl⟩

theorem d_parse11 {E : Env} (h11 : E 11 = some (.code c11)) (s : List UInt8) (hs : s.length ≤ 140737488351232) (hp : Hp) : deepE E (Call E) 11 [.str s] hp = some (parseS s) := by
  rw [deep_code h11 rfl, deep_go]
  simp only [mapO_nil, mapO_cons, consO_some, snapA_str, goD_some]
  rw [Call_mk E h11 _ _ rfl]
  by_cases h : s.length = 32
  · have hl := loop11 (E := E) s h _ rfl 32 0 [0, 0, 0, 0] (by omega) rfl
    rw [List.drop_zero] at hl
    unfold parseS
    rw [if_pos h]
    have h32 : ((s.length : Nat) : Int) = 32 := by omega
    cases hz : pz s 0 [0, 0, 0, 0] with
    | some ws =>
      rw [hz] at hl
      simp only [zero4, Int.cast_ofNat_Int] at hl
      have h4 := pz_len _ _ _ _ hz
      have htk : List.take 4 (u32s ws) = u32s ws := by rw [List.take_of_length_le]; rw [u32s_len, h4]; exact Nat.le_refl _
      have hsp : splice [S.int .u32 0, S.int .u32 0, S.int .u32 0, S.int .u32 0] 0 (u32s ws) = u32s ws := splice_all _ _ (by rw [u32s_len, h4]; rfl)
      have hok : (u32s ws).all S.okv = true := by simp [u32s, S.okv]
      have hlen : (u32s ws).length = 4 := by rw [u32s_len, h4]; rfl
      simp only [Aa, Ab, Ac, Ad, Ae, Af, Ag, Ah, Ai, Aj, Ak, Al, Am, Ao, Ap, Aq, Ar, Au, Av, Aw, Ay, Az, Ba, Bb, Bc, Bd, Be, Bf, Bg, Bh, Bi, Bj, Bk, Bl, Bm, Bn, Bo, Bp, Bq, Br, Bs, Bt, Bv, Bw, Bx, Bz, Ca, Cb, Cc, Cd, Ce, Cf, Cg, Ch, Ci, Cj, Ck, Cl, Cm, Cn, Co, Cp, Cq, Cr, Cs, Ct, Cu, Cv, Cw, Cy, Cz, Da, Option.map_some, Db, Dc, De, Df, Dg, Dh, Di, Dj, Dk, Dl, Dm, Dn, Dp, Dq, Dr, Dt, Du, Dv, Dw, Dx, Dy, Dz, Ea, Eb, Ec, Ed, Ee, Ef, Eg, Eh, Ei, Ej, Ek, El, Em, Eo, Ep, Er, Es, Et, Eu, Ev, Ew, Ey, Ez, Fa, Fb, Fc, Fe, Ff, Fg, Fh, Fj, Fl, Fm, Fp, Fq, Fs, Ft, Fu, Fv, Fw, Fx, Nat.reduceEqDiff, Nat.reduceAdd, Nat.reduceMul, Nat.reduceLT, Nat.reduceLeDiff, ↓reduceIte, Lw, Lx, Nat.reduceBEq, Ly, Ma, Mb, Mc, reduceCtorEq, Md, Me, Fy, Fz, Ga, Gb, Gc, Gd, Ge, Gf, Gg, Gh, Gi, Gj, Gk, Gl, Gm, Gn, Gp, Gq, Gr, Gs, Gt, Gu, Gv, Gw, Gx, Gy, Gz, Ha, Hb, Hc, Hd, He, Hf, Hg, Hh, Hj, Hk, Hl, Hm, Hn, Ho, Hq, Hr, Hs, Ht, Hu, Hv, Hw, Hy, Hz, Ia, Ib, Ic, Ie, Ig, Ih, Ii, Ij, Ik, Il, Im, Io, Ip, Iq, Ir, Iu, Iv, Iw, Iy, Iz, Ja, Jb, Jc, Jd, Je, Jf, Jg, Jh, Ji, Jj, Jk, Jl, Jm, Jn, Jo, Jp, Jq, Jr, Js, Jt, Ju, Jv, Jw, Jy, Jz, Ka, Kb, Kc, Ke, Kf, Kg, Kh, Ki, Kj, Kk, Kl, Km, Kn, Ko, Kq, Kr, Ks, Kt, Ku, Kv, Kw, Kx, Ky, Kz, and_self, true_and, and_true, Mf, Mg, Mh, Mi, Mj, Mk, Ml, Mm, Mn, Mo, Mp, Mq, Mr, Ms, Int.reduceToNat, Int.reduceLT, Int.reduceEq, Int.reduceLE, List.getElem?_cons_zero, List.getElem?_cons_succ, La, Lb, Lc, Mt, Mu, Mv, Mw, gt_iff_lt, ge_iff_le, Ld, Le, Lf, Lg, Lh, Li, Mx, My, Lj, Ll, Lm, Ln, Lp, Lr, Ls, Lt, Lu, Lv, Mz, Na, h32, ne_eq, not_true_eq_false, decide_false, zero4]
      rw [hl]
      simp only [Aa, Ab, Ac, Ad, Ae, Af, Ag, Ah, Ai, Aj, Ak, Al, Am, Ao, Ap, Aq, Ar, Au, Av, Aw, Ay, Az, Ba, Bb, Bc, Bd, Be, Bf, Bg, Bh, Bi, Bj, Bk, Bl, Bm, Bn, Bo, Bp, Bq, Br, Bs, Bt, Bv, Bw, Bx, Bz, Ca, Cb, Cc, Cd, Ce, Cf, Cg, Ch, Ci, Cj, Ck, Cl, Cm, Cn, Co, Cp, Cq, Cr, Cs, Ct, Cu, Cv, Cw, Cy, Cz, Da, Option.map_some, Db, Dc, De, Df, Dg, Dh, Di, Dj, Dk, Dl, Dm, Dn, Dp, Dq, Dr, Dt, Du, Dv, Dw, Dx, Dy, Dz, Ea, Eb, Ec, Ed, Ee, Ef, Eg, Eh, Ei, Ej, Ek, El, Em, Eo, Ep, Er, Es, Et, Eu, Ev, Ew, Ey, Ez, Fa, Fb, Fc, Fe, Ff, Fg, Fh, Fj, Fl, Fm, Fp, Fq, Fs, Ft, Fu, Fv, Fw, Fx, Nat.reduceEqDiff, Nat.reduceAdd, Nat.reduceMul, Nat.reduceLT, Nat.reduceLeDiff, ↓reduceIte, Lw, Lx, Nat.reduceBEq, Ly, Ma, Mb, Mc, reduceCtorEq, Md, Me, Fy, Fz, Ga, Gb, Gc, Gd, Ge, Gf, Gg, Gh, Gi, Gj, Gk, Gl, Gm, Gn, Gp, Gq, Gr, Gs, Gt, Gu, Gv, Gw, Gx, Gy, Gz, Ha, Hb, Hc, Hd, He, Hf, Hg, Hh, Hj, Hk, Hl, Hm, Hn, Ho, Hq, Hr, Hs, Ht, Hu, Hv, Hw, Hy, Hz, Ia, Ib, Ic, Ie, Ig, Ih, Ii, Ij, Ik, Il, Im, Io, Ip, Iq, Ir, Iu, Iv, Iw, Iy, Iz, Ja, Jb, Jc, Jd, Je, Jf, Jg, Jh, Ji, Jj, Jk, Jl, Jm, Jn, Jo, Jp, Jq, Jr, Js, Jt, Ju, Jv, Jw, Jy, Jz, Ka, Kb, Kc, Ke, Kf, Kg, Kh, Ki, Kj, Kk, Kl, Km, Kn, Ko, Kq, Kr, Ks, Kt, Ku, Kv, Kw, Kx, Ky, Kz, and_self, true_and, and_true, Mf, Mg, Mh, Mi, Mj, Mk, Ml, Mm, Mn, Mo, Mp, Mq, Mr, Ms, Int.reduceToNat, Int.reduceLT, Int.reduceEq, Int.reduceLE, List.getElem?_cons_zero, List.getElem?_cons_succ, La, Lb, Lc, Mt, Mu, Mv, Mw, gt_iff_lt, ge_iff_le, Ld, Le, Lf, Lg, Lh, Li, Mx, My, Lj, Ll, Lm, Ln, Lp, Lr, Ls, Lt, Lu, Lv, Mz, Na, htk, hsp, hok, hlen, result, result.mapO', resV, loadR, cellsAt_eq, Option.bind_some, Option.map_some, mk, snap_tup4, out_tup4]
      rw [mapO_u32s]
      rfl
    | none =>
      rw [hz] at hl
      simp only [zero4, Int.cast_ofNat_Int] at hl
      obtain ⟨st, h2, h3, h4⟩ := hl
      simp only [Aa, Ab, Ac, Ad, Ae, Af, Ag, Ah, Ai, Aj, Ak, Al, Am, Ao, Ap, Aq, Ar, Au, Av, Aw, Ay, Az, Ba, Bb, Bc, Bd, Be, Bf, Bg, Bh, Bi, Bj, Bk, Bl, Bm, Bn, Bo, Bp, Bq, Br, Bs, Bt, Bv, Bw, Bx, Bz, Ca, Cb, Cc, Cd, Ce, Cf, Cg, Ch, Ci, Cj, Ck, Cl, Cm, Cn, Co, Cp, Cq, Cr, Cs, Ct, Cu, Cv, Cw, Cy, Cz, Da, Option.map_some, Db, Dc, De, Df, Dg, Dh, Di, Dj, Dk, Dl, Dm, Dn, Dp, Dq, Dr, Dt, Du, Dv, Dw, Dx, Dy, Dz, Ea, Eb, Ec, Ed, Ee, Ef, Eg, Eh, Ei, Ej, Ek, El, Em, Eo, Ep, Er, Es, Et, Eu, Ev, Ew, Ey, Ez, Fa, Fb, Fc, Fe, Ff, Fg, Fh, Fj, Fl, Fm, Fp, Fq, Fs, Ft, Fu, Fv, Fw, Fx, Nat.reduceEqDiff, Nat.reduceAdd, Nat.reduceMul, Nat.reduceLT, Nat.reduceLeDiff, ↓reduceIte, Lw, Lx, Nat.reduceBEq, Ly, Ma, Mb, Mc, reduceCtorEq, Md, Me, Fy, Fz, Ga, Gb, Gc, Gd, Ge, Gf, Gg, Gh, Gi, Gj, Gk, Gl, Gm, Gn, Gp, Gq, Gr, Gs, Gt, Gu, Gv, Gw, Gx, Gy, Gz, Ha, Hb, Hc, Hd, He, Hf, Hg, Hh, Hj, Hk, Hl, Hm, Hn, Ho, Hq, Hr, Hs, Ht, Hu, Hv, Hw, Hy, Hz, Ia, Ib, Ic, Ie, Ig, Ih, Ii, Ij, Ik, Il, Im, Io, Ip, Iq, Ir, Iu, Iv, Iw, Iy, Iz, Ja, Jb, Jc, Jd, Je, Jf, Jg, Jh, Ji, Jj, Jk, Jl, Jm, Jn, Jo, Jp, Jq, Jr, Js, Jt, Ju, Jv, Jw, Jy, Jz, Ka, Kb, Kc, Ke, Kf, Kg, Kh, Ki, Kj, Kk, Kl, Km, Kn, Ko, Kq, Kr, Ks, Kt, Ku, Kv, Kw, Kx, Ky, Kz, and_self, true_and, and_true, Mf, Mg, Mh, Mi, Mj, Mk, Ml, Mm, Mn, Mo, Mp, Mq, Mr, Ms, Int.reduceToNat, Int.reduceLT, Int.reduceEq, Int.reduceLE, List.getElem?_cons_zero, List.getElem?_cons_succ, La, Lb, Lc, Mt, Mu, Mv, Mw, gt_iff_lt, ge_iff_le, Ld, Le, Lf, Lg, Lh, Li, Mx, My, Lj, Ll, Lm, Ln, Lp, Lr, Ls, Lt, Lu, Lv, Mz, Na, h32, ne_eq, not_true_eq_false, decide_false]
      rw [h2]
      simp only [Aa, Ab, Ac, Ad, Ae, Af, Ag, Ah, Ai, Aj, Ak, Al, Am, Ao, Ap, Aq, Ar, Au, Av, Aw, Ay, Az, Ba, Bb, Bc, Bd, Be, Bf, Bg, Bh, Bi, Bj, Bk, Bl, Bm, Bn, Bo, Bp, Bq, Br, Bs, Bt, Bv, Bw, Bx, Bz, Ca, Cb, Cc, Cd, Ce, Cf, Cg, Ch, Ci, Cj, Ck, Cl, Cm, Cn, Co, Cp, Cq, Cr, Cs, Ct, Cu, Cv, Cw, Cy, Cz, Da, Option.map_some, Db, Dc, De, Df, Dg, Dh, Di, Dj, Dk, Dl, Dm, Dn, Dp, Dq, Dr, Dt, Du, Dv, Dw, Dx, Dy, Dz, Ea, Eb, Ec, Ed, Ee, Ef, Eg, Eh, Ei, Ej, Ek, El, Em, Eo, Ep, Er, Es, Et, Eu, Ev, Ew, Ey, Ez, Fa, Fb, Fc, Fe, Ff, Fg, Fh, Fj, Fl, Fm, Fp, Fq, Fs, Ft, Fu, Fv, Fw, Fx, Nat.reduceEqDiff, Nat.reduceAdd, Nat.reduceMul, Nat.reduceLT, Nat.reduceLeDiff, ↓reduceIte, Lw, Lx, Nat.reduceBEq, Ly, Ma, Mb, Mc, reduceCtorEq, Md, Me, Fy, Fz, Ga, Gb, Gc, Gd, Ge, Gf, Gg, Gh, Gi, Gj, Gk, Gl, Gm, Gn, Gp, Gq, Gr, Gs, Gt, Gu, Gv, Gw, Gx, Gy, Gz, Ha, Hb, Hc, Hd, He, Hf, Hg, Hh, Hj, Hk, Hl, Hm, Hn, Ho, Hq, Hr, Hs, Ht, Hu, Hv, Hw, Hy, Hz, Ia, Ib, Ic, Ie, Ig, Ih, Ii, Ij, Ik, Il, Im, Io, Ip, Iq, Ir, Iu, Iv, Iw, Iy, Iz, Ja, Jb, Jc, Jd, Je, Jf, Jg, Jh, Ji, Jj, Jk, Jl, Jm, Jn, Jo, Jp, Jq, Jr, Js, Jt, Ju, Jv, Jw, Jy, Jz, Ka, Kb, Kc, Ke, Kf, Kg, Kh, Ki, Kj, Kk, Kl, Km, Kn, Ko, Kq, Kr, Ks, Kt, Ku, Kv, Kw, Kx, Ky, Kz, and_self, true_and, and_true, Mf, Mg, Mh, Mi, Mj, Mk, Ml, Mm, Mn, Mo, Mp, Mq, Mr, Ms, Int.reduceToNat, Int.reduceLT, Int.reduceEq, Int.reduceLE, List.getElem?_cons_zero, List.getElem?_cons_succ, La, Lb, Lc, Mt, Mu, Mv, Mw, gt_iff_lt, ge_iff_le, Ld, Le, Lf, Lg, Lh, Li, Mx, My, Lj, Ll, Lm, Ln, Lp, Lr, Ls, Lt, Lu, Lv, Mz, Na, h3, h4]
      rfl
  · have h1 : ¬ ((s.length : Int) = 32) := by omega
    unfold parseS
    rw [if_neg h]
    simp only [Aa, Ab, Ac, Ad, Ae, Af, Ag, Ah, Ai, Aj, Ak, Al, Am, Ao, Ap, Aq, Ar, Au, Av, Aw, Ay, Az, Ba, Bb, Bc, Bd, Be, Bf, Bg, Bh, Bi, Bj, Bk, Bl, Bm, Bn, Bo, Bp, Bq, Br, Bs, Bt, Bv, Bw, Bx, Bz, Ca, Cb, Cc, Cd, Ce, Cf, Cg, Ch, Ci, Cj, Ck, Cl, Cm, Cn, Co, Cp, Cq, Cr, Cs, Ct, Cu, Cv, Cw, Cy, Cz, Da, Option.map_some, Db, Dc, De, Df, Dg, Dh, Di, Dj, Dk, Dl, Dm, Dn, Dp, Dq, Dr, Dt, Du, Dv, Dw, Dx, Dy, Dz, Ea, Eb, Ec, Ed, Ee, Ef, Eg, Eh, Ei, Ej, Ek, El, Em, Eo, Ep, Er, Es, Et, Eu, Ev, Ew, Ey, Ez, Fa, Fb, Fc, Fe, Ff, Fg, Fh, Fj, Fl, Fm, Fp, Fq, Fs, Ft, Fu, Fv, Fw, Fx, Nat.reduceEqDiff, Nat.reduceAdd, Nat.reduceMul, Nat.reduceLT, Nat.reduceLeDiff, ↓reduceIte, Lw, Lx, Nat.reduceBEq, Ly, Ma, Mb, Mc, reduceCtorEq, Md, Me, Fy, Fz, Ga, Gb, Gc, Gd, Ge, Gf, Gg, Gh, Gi, Gj, Gk, Gl, Gm, Gn, Gp, Gq, Gr, Gs, Gt, Gu, Gv, Gw, Gx, Gy, Gz, Ha, Hb, Hc, Hd, He, Hf, Hg, Hh, Hj, Hk, Hl, Hm, Hn, Ho, Hq, Hr, Hs, Ht, Hu, Hv, Hw, Hy, Hz, Ia, Ib, Ic, Ie, Ig, Ih, Ii, Ij, Ik, Il, Im, Io, Ip, Iq, Ir, Iu, Iv, Iw, Iy, Iz, Ja, Jb, Jc, Jd, Je, Jf, Jg, Jh, Ji, Jj, Jk, Jl, Jm, Jn, Jo, Jp, Jq, Jr, Js, Jt, Ju, Jv, Jw, Jy, Jz, Ka, Kb, Kc, Ke, Kf, Kg, Kh, Ki, Kj, Kk, Kl, Km, Kn, Ko, Kq, Kr, Ks, Kt, Ku, Kv, Kw, Kx, Ky, Kz, and_self, true_and, and_true, Mf, Mg, Mh, Mi, Mj, Mk, Ml, Mm, Mn, Mo, Mp, Mq, Mr, Ms, Int.reduceToNat, Int.reduceLT, Int.reduceEq, Int.reduceLE, List.getElem?_cons_zero, List.getElem?_cons_succ, La, Lb, Lc, Mt, Mu, Mv, Mw, gt_iff_lt, ge_iff_le, Ld, Le, Lf, Lg, Lh, Li, Mx, My, Lj, Ll, Lm, Ln, Lp, Lr, Ls, Lt, Lu, Lv, Mz, Na, ne_eq, h1, not_false_eq_true, decide_true]
    rfl
end Go.Proofs.Ytepedjncjehmgaa.Sim
namespace Go.Proofs.Ytepedjncjehmgaa.Sim
set_option linter.unusedSimpArgs false
set_option linter.unusedVariables false
open Go
set_option maxRecDepth 100000
set_option linter.unusedSimpArgs false

def qtext (a b c d : Int) : List UInt8 := hexW a 8 ++ (hexW b 8 ++ (hexW c 8 ++ hexW d 8))
theorem hexW_len (x : Int) : ∀ m, (hexW x m).length = m
  | 0 => rfl
  | m + 1 => by simp [hexW, hexW_len x m]
theorem qtext_len (a b c d : Int) : (qtext a b c d).length = 32 := by simp [qtext, hexW_len]

theorem hv_hx (x : Int) (m : Nat) : hv (hx.getD (nibS x m) 0) = some (nibS x m) := by
  have h : ∀ n < 16, hv (hx.getD n 0) = some n := by decide +kernel
  exact h _ (Nat.mod_lt _ (by decide))

theorem pz_word (x : Int) (hx0 : okW x = true) (j : Nat) (r : List UInt8) : ∀ (m : Nat) (ws : List Int), m ≤ 8 → j < ws.length → ws.getD j 0 = ((x.toNat / 16 ^ m : Nat) : Int) →
    pz (hexW x m ++ r) (8 * j + (8 - m)) ws = pz r (8 * j + 8) (ws.set j x)
  | 0, ws, _, hj, hw => by
    simp only [okW, decide_eq_true_eq] at hx0
    have : ws.set j x = ws := by
      have e : x = ws.getD j 0 := by rw [hw]; simp; omega
      rw [e]
      simp [List.getD, hj]
    simp [hexW, this]
  | m + 1, ws, hm, hj, hw => by
    have h0 := hx0
    simp only [okW, decide_eq_true_eq] at h0
    simp only [hexW, List.cons_append, pz, hv_hx]
    have hk : (8 * j + (8 - (m + 1))) / 8 = j := by omega
    have hdiv : x.toNat / 16 ^ (m + 1) = x.toNat / 16 ^ m / 16 := by rw [Nat.pow_succ, Nat.div_div_eq_div_mul]
    have hlt : x.toNat / 16 ^ m < 4294967296 := Nat.lt_of_le_of_lt (Nat.div_le_self _ _) (by omega)
    have hn : nibS x m = x.toNat / 16 ^ m % 16 := rfl
    have hst : ibit .or .u32 (ishl .u32 (ws.getD j 0) 4) (nibS x m) = ((x.toNat / 16 ^ m : Nat) : Int) := by
      rw [hw, hdiv, ishl_nat _ 4 (by omega) (by omega), or_hi _ _ 4 (by omega) (by omega)]
      congr 1
      omega
    have ih := pz_word x hx0 j r m (ws.set j ((x.toNat / 16 ^ m : Nat) : Int)) (by omega) (by simpa using hj) (by simp [List.getD, hj])
    rw [pstep, hk, hst, show 8 * j + (8 - (m + 1)) + 1 = 8 * j + (8 - m) by omega, ih, List.set_set]

theorem pz_text (a b c d : Int) (ha : okW a = true) (hb : okW b = true) (hc : okW c = true) (hd : okW d = true) : pz (qtext a b c d) 0 [0, 0, 0, 0] = some [a, b, c, d] := by
  have z : ∀ x, okW x = true → x.toNat / 16 ^ 8 = 0 := by
    intro x h
    simp only [okW, decide_eq_true_eq] at h
    omega
  have h1 := pz_word a ha 0 (hexW b 8 ++ (hexW c 8 ++ hexW d 8)) 8 [0, 0, 0, 0] (by omega) (by decide) (by rw [z a ha]; rfl)
  have h2 := pz_word b hb 1 (hexW c 8 ++ hexW d 8) 8 [a, 0, 0, 0] (by omega) (by simp) (by rw [z b hb]; rfl)
  have h3 := pz_word c hc 2 (hexW d 8) 8 [a, b, 0, 0] (by omega) (by simp) (by rw [z c hc]; rfl)
  have h4 := pz_word d hd 3 [] 8 [a, b, c, 0] (by omega) (by simp) (by rw [z d hd]; rfl)
  rw [List.append_nil] at h4
  simp only [Nat.mul_zero, Nat.sub_self, Nat.add_zero, Nat.mul_one, Nat.zero_add, List.set_cons_zero, List.set_cons_succ] at h1 h2 h3 h4
  rw [qtext, h1, h2, h3, h4]
  rfl

theorem d_text6 {E : Env} (h6 : E 6 = some (.prim pText)) (a b c d : Int) (ha : okW a = true) (hb : okW b = true) (hc : okW c = true) (hd : okW d = true) (hp : Hp) :
    deepE E (Call E) 6 [.agg [.int .u32 a, .int .u32 b, .int .u32 c, .int .u32 d]] hp = some (.str (qtext a b c d)) := by
  rw [deep_prim h6, deep_go]
  simp only [mapO_nil, mapO_cons, consO_some, snapA_agg, snapC_int, aggO_some]
  have := Call_prim (E := E) h6 [.agg [.int .u32 a, .int .u32 b, .int .u32 c, .int .u32 d]] []
  simp only [pText, ha, hb, hc, hd, Bool.and_self, if_true, Option.map_some] at this
  simp only [goD, this, qtext]
  rfl

theorem parse_text (a b c d : Int) (ha : okW a = true) (hb : okW b = true) (hc : okW c = true) (hd : okW d = true) : parseS (qtext a b c d) = .tup [.agg [.int .u32 a, .int .u32 b, .int .u32 c, .int .u32 d], .int .i64 0] := by
  rw [parseS, if_pos (qtext_len a b c d), pz_text a b c d ha hb hc hd]
  rfl
theorem parse_other (s : List UInt8) (h : s.length ≠ 32) : parseS s = .tup [.agg [.int .u32 0, .int .u32 0, .int .u32 0, .int .u32 0], .int .i64 7] := by
  rw [parseS, if_neg h]; rfl
theorem parse_A (s : List UInt8) : parseS (65 :: s) = .tup [.agg [.int .u32 0, .int .u32 0, .int .u32 0, .int .u32 0], .int .i64 7] := by
  rw [parseS]
  split
  · have : pz (65 :: s) 0 [0, 0, 0, 0] = none := by simp only [pz, show hv 65 = none by decide]
    rw [this]; rfl
  · rfl

theorem eqvS_four (a b c d : Int) : eqvS false true [.i, .i, .i, .i] (.agg [.int .u32 a, .int .u32 b, .int .u32 c, .int .u32 d]) (.agg [.int .u32 a, .int .u32 b, .int .u32 c, .int .u32 d]) = some (.bool true) := by
  simp [eqvS, eqV, eqK, eqSc]

theorem c_back {E : Env} (h24 : E 24 = some (.prim pIndexByte)) (h6 : E 6 = some (.prim pText)) (h7 : E 7 = some (.code c7)) (h2 : E 2 = some (.code c2)) {g8 : Fun} (h8 : E 8 = some g8) (h8d : g8.isDeep = true)
    (hsane : ∀ hp, deepE E (Call E) 8 [] hp = some (.bool true)) (a b c d : Int) (ha : okW a = true) (hb : okW b = true) (hc : okW c = true) (hd : okW d = true) :
    ∃ hp, Call E 2 [.agg [.int .u32 a, .int .u32 b, .int .u32 c, .int .u32 d]] [] = some (.bool true, hp) := by
  rw [Call_mk E h2 _ _ rfl]
  have ht := fun hp => d_text6 h6 a b c d ha hb hc hd hp
  have hlen := qtext_len a b c d
  generalize hT : qtext a b c d = T at *
  have hlen' : (T.length : Int) = 32 := by omega
  have hp1 := fun hp => d_parse7 h24 h7 T (by omega) hp
  rw [← hT, parse_text a b c d ha hb hc hd, hT] at hp1
  have hp2 := fun hp => d_parse7 h24 h7 (T ++ [48]) (by simp; omega) hp
  rw [parse_other _ (by simp; omega)] at hp2
  have hp3 := fun hp => d_parse7 h24 h7 (T.take 31) (by simp; omega) hp
  rw [parse_other _ (by simp; omega)] at hp3
  have hp4 := fun hp => d_parse7 h24 h7 (65 :: T.drop 1) (by simp; omega) hp
  rw [parse_A] at hp4
  have b1 : binS .add (.str T) (.str [48]) = some (.str (T ++ [48])) := by simp [binS, binT]; omega
  have b2 : ∀ vars hp, sliceV vars hp none (.str T) none (some (.int .i64 31)) = some (.str (T.take 31)) := by
    intro vars hp
    simp [sliceV, sliceR, bnd, hlen]
  have b3 : ∀ vars hp, sliceV vars hp none (.str T) (some (.int .i64 1)) none = some (.str (T.drop 1)) := by
    intro vars hp
    have : List.take T.length T = T := List.take_length ..
    simp [sliceV, sliceR, bnd, hlen]
    rw [← hlen, this]
  have b4 : binS .add (.str [65]) (.str (T.drop 1)) = some (.str (65 :: T.drop 1)) := by simp [binS, binT]; omega
  have m1 : mmS true (.int .i64 0) (.int .i64 31) = some (.int .i64 31) := rfl
  have m2 : mmS false (.int .i64 1) (.int .i64 32) = some (.int .i64 1) := rfl
  have w1 : IntKind.i64.wrap (32 - 1) = 31 := rfl
  refine ⟨[], ?_⟩
  simp only [Aa, Ab, Ac, Ad, Ae, Af, Ag, Ah, Ai, Aj, Ak, Al, Am, Ao, Ap, Aq, Ar, Au, Av, Aw, Ay, Az, Ba, Bb, Bc, Bd, Be, Bf, Bg, Bh, Bi, Bj, Bk, Bl, Bm, Bn, Bo, Bp, Bq, Br, Bs, Bt, Bv, Bw, Bx, Bz, Ca, Cb, Cc, Cd, Ce, Cf, Cg, Ch, Ci, Cj, Ck, Cl, Cm, Cn, Co, Cp, Cq, Cr, Cs, Ct, Cu, Cv, Cw, Cy, Cz, Da, Option.map_some, Db, Dc, De, Df, Dg, Dh, Di, Dj, Dk, Dl, Dm, Dn, Dp, Dq, Dr, Dt, Du, Dv, Dw, Dx, Dy, Dz, Ea, Eb, Ec, Ed, Ee, Ef, Eg, Eh, Ei, Ej, Ek, El, Em, Eo, Ep, Er, Es, Et, Eu, Ev, Ew, Ey, Ez, Fa, Fb, Fc, Fe, Ff, Fg, Fh, Fj, Fl, Fm, Fp, Fq, Fs, Ft, Fu, Fv, Fw, Fx, Nat.reduceEqDiff, Nat.reduceAdd, Nat.reduceMul, Nat.reduceLT, Nat.reduceLeDiff, ↓reduceIte, Lw, Lx, Nat.reduceBEq, Ly, Ma, Mb, Mc, reduceCtorEq, Md, Me, Fy, Fz, Ga, Gb, Gc, Gd, Ge, Gf, Gg, Gh, Gi, Gj, Gk, Gl, Gm, Gn, Gp, Gq, Gr, Gs, Gt, Gu, Gv, Gw, Gx, Gy, Gz, Ha, Hb, Hc, Hd, He, Hf, Hg, Hh, Hj, Hk, Hl, Hm, Hn, Ho, Hq, Hr, Hs, Ht, Hu, Hv, Hw, Hy, Hz, Ia, Ib, Ic, Ie, Ig, Ih, Ii, Ij, Ik, Il, Im, Io, Ip, Iq, Ir, Iu, Iv, Iw, Iy, Iz, Ja, Jb, Jc, Jd, Je, Jf, Jg, Jh, Ji, Jj, Jk, Jl, Jm, Jn, Jo, Jp, Jq, Jr, Js, Jt, Ju, Jv, Jw, Jy, Jz, Ka, Kb, Kc, Ke, Kf, Kg, Kh, Ki, Kj, Kk, Kl, Km, Kn, Ko, Kq, Kr, Ks, Kt, Ku, Kv, Kw, Kx, Ky, Kz, and_self, true_and, and_true, Mf, Mg, Mh, Mi, Mj, Mk, Ml, Mm, Mn, Mo, Mp, Mq, Mr, Ms, Int.reduceToNat, Int.reduceLT, Int.reduceEq, Int.reduceLE, List.getElem?_cons_zero, List.getElem?_cons_succ, La, Lb, Lc, Mt, Mu, Mv, Mw, gt_iff_lt, ge_iff_le, Ld, Le, Lf, Lg, Lh, Li, Mx, My, Lj, Ll, Lm, Ln, Lp, Lr, Ls, Lt, Lu, Lv, Mz, Na, op_call_deep _ _ h6 rfl, op_call_deep _ _ h7 rfl, op_call_deep _ _ h8 h8d, ht, hp1, hp2, hp3, hp4, b1, b2, b3, b4, m1, m2, w1, hlen', hsane, eqvS_four, decide_true]
end Go.Proofs.Ytepedjncjehmgaa.Sim
namespace Go.Proofs.Ytepedjncjehmgaa.Sim
set_option linter.unusedSimpArgs false
set_option linter.unusedVariables false
open Go
set_option maxRecDepth 100000
set_option linter.unusedSimpArgs false

theorem onF_deep {E : Env} {C : CallF} {g : Nat} {q : Fun} (hE : E g = some q) (hd : q.isDeep = true) (d os fr vars hp args caps) :
    onF E C d os fr vars hp args (.fn g caps) = onV E C d os ⟨fr, vars, hp⟩ (deepE E C g (args ++ caps) hp) := by
  simp only [onF, hE, hd, if_true]

def ror (x : Int) (n : Nat) : Int := ibit .or .u32 (ishr .u32 x n) (ishl .u32 x (32 - n))

theorem d_ror {E : Env} (h10 : E 10 = some (.code c10)) (x : Int) (n : Nat) (hn : n < 32) (hp : Hp) : deepE E (Call E) 10 [.int .u32 x, .int .u64 n] hp = some (.int .u32 (ror x n)) := by
  rw [deep_code h10 rfl, deep_go]
  simp only [mapO_nil, mapO_cons, consO_some, snapA_int, goD_some]
  rw [Call_mk E h10 _ _ rfl]
  have h2 : IntKind.u64.wrap (32 - (n : Int)) = ((32 - n : Nat) : Int) := by
    have : ∀ m < 32, IntKind.u64.wrap (32 - ((m : Nat) : Int)) = ((32 - m : Nat) : Int) := by decide
    exact this n hn
  have h3 : ¬ ((n : Int) < 0) := by omega
  have h4 : ¬ (((32 - n : Nat) : Int) < 0) := by omega
  simp only [Aa, Ab, Ac, Ad, Ae, Af, Ag, Ah, Ai, Aj, Ak, Al, Am, Ao, Ap, Aq, Ar, Au, Av, Aw, Ay, Az, Ba, Bb, Bc, Bd, Be, Bf, Bg, Bh, Bi, Bj, Bk, Bl, Bm, Bn, Bo, Bp, Bq, Br, Bs, Bt, Bv, Bw, Bx, Bz, Ca, Cb, Cc, Cd, Ce, Cf, Cg, Ch, Ci, Cj, Ck, Cl, Cm, Cn, Co, Cp, Cq, Cr, Cs, Ct, Cu, Cv, Cw, Cy, Cz, Da, Option.map_some, Db, Dc, De, Df, Dg, Dh, Di, Dj, Dk, Dl, Dm, Dn, Dp, Dq, Dr, Dt, Du, Dv, Dw, Dx, Dy, Dz, Ea, Eb, Ec, Ed, Ee, Ef, Eg, Eh, Ei, Ej, Ek, El, Em, Eo, Ep, Er, Es, Et, Eu, Ev, Ew, Ey, Ez, Fa, Fb, Fc, Fe, Ff, Fg, Fh, Fj, Fl, Fm, Fp, Fq, Fs, Ft, Fu, Fv, Fw, Fx, Nat.reduceEqDiff, Nat.reduceAdd, Nat.reduceMul, Nat.reduceLT, Nat.reduceLeDiff, ↓reduceIte, Lw, Lx, Nat.reduceBEq, Ly, Ma, Mb, Mc, reduceCtorEq, Md, Me, Fy, Fz, Ga, Gb, Gc, Gd, Ge, Gf, Gg, Gh, Gi, Gj, Gk, Gl, Gm, Gn, Gp, Gq, Gr, Gs, Gt, Gu, Gv, Gw, Gx, Gy, Gz, Ha, Hb, Hc, Hd, He, Hf, Hg, Hh, Hj, Hk, Hl, Hm, Hn, Ho, Hq, Hr, Hs, Ht, Hu, Hv, Hw, Hy, Hz, Ia, Ib, Ic, Ie, Ig, Ih, Ii, Ij, Ik, Il, Im, Io, Ip, Iq, Ir, Iu, Iv, Iw, Iy, Iz, Ja, Jb, Jc, Jd, Je, Jf, Jg, Jh, Ji, Jj, Jk, Jl, Jm, Jn, Jo, Jp, Jq, Jr, Js, Jt, Ju, Jv, Jw, Jy, Jz, Ka, Kb, Kc, Ke, Kf, Kg, Kh, Ki, Kj, Kk, Kl, Km, Kn, Ko, Kq, Kr, Ks, Kt, Ku, Kv, Kw, Kx, Ky, Kz, and_self, true_and, and_true, Mf, Mg, Mh, Mi, Mj, Mk, Ml, Mm, Mn, Mo, Mp, Mq, Mr, Ms, Int.reduceToNat, Int.reduceLT, Int.reduceEq, Int.reduceLE, List.getElem?_cons_zero, List.getElem?_cons_succ, La, Lb, Lc, Mt, Mu, Mv, Mw, gt_iff_lt, ge_iff_le, Ld, Le, Lf, Lg, Lh, Li, Mx, My, Lj, Ll, Lm, Ln, Lp, Lr, Ls, Lt, Lu, Lv, Mz, Na, h2, h3, h4, Int.toNat_natCast, ror]

/-! Words as bit vectors. -/
def wv (v : BitVec 32) : Int := (v.toNat : Int)
theorem wv_of {x : Int} (h : okW x = true) : x = wv (BitVec.ofNat 32 x.toNat) := by
  simp only [okW, decide_eq_true_eq] at h
  simp only [wv, BitVec.toNat_ofNat]
  omega
theorem wv_ok (v : BitVec 32) : okW (wv v) = true := by
  have := v.isLt
  exact decide_eq_true (p := 0 ≤ (v.toNat : Int) ∧ (v.toNat : Int) < 4294967296) ⟨by omega, by omega⟩
theorem ofInt_wv (v : BitVec 32) : BitVec.ofInt IntKind.u32.bits (wv v) = v := by
  show BitVec.ofInt 32 (wv v) = v
  simp [wv]
theorem wrap_wv (v : BitVec 32) : IntKind.u32.wrap (v.toNat : Int) = wv v := by
  have := v.isLt
  exact wrap_u32 (n := (v.toNat : Int)) (by omega) (by omega)
theorem ibit_or_wv (v w : BitVec 32) : ibit .or .u32 (wv v) (wv w) = wv (v ||| w) := by
  simp only [ibit, ofInt_wv]; exact wrap_wv (v ||| w)
theorem ibit_xor_wv (v w : BitVec 32) : ibit .xor .u32 (wv v) (wv w) = wv (v ^^^ w) := by
  simp only [ibit, ofInt_wv]; exact wrap_wv (v ^^^ w)
theorem wrap_mod (x : Int) : IntKind.u32.wrap x = x % 4294967296 := by
  have := IntKind.wrap_u32
  simp [IntKind.wrap, IntKind.bits, IntKind.signed]
theorem ishl_wv (v : BitVec 32) (n : Nat) (hn : n ≤ 32) : ishl .u32 (wv v) n = wv (v <<< n) := by
  simp only [ishl]
  rw [show min n IntKind.u32.bits = n from Nat.min_eq_left hn, wrap_mod]
  simp only [wv, BitVec.toNat_shiftLeft, Nat.shiftLeft_eq]
  rw [show ((v.toNat : Int) * 2 ^ n) = ((v.toNat * 2 ^ n : Nat) : Int) by rw [Int.natCast_mul, Int.natCast_pow]; rfl]
  generalize v.toNat * 2 ^ n = z
  show (z : Int) % 4294967296 = ((z % 4294967296 : Nat) : Int)
  omega
theorem ishr_wv (v : BitVec 32) (n : Nat) (hn : n ≤ 32) : ishr .u32 (wv v) n = wv (v >>> n) := by
  simp only [ishr]
  rw [show min n IntKind.u32.bits = n from Nat.min_eq_left hn]
  simp only [wv, BitVec.toNat_ushiftRight, Nat.shiftRight_eq_div_pow]
  rw [Int.fdiv_eq_ediv_of_nonneg _ (by exact Int.pow_nonneg (by decide))]
  push_cast
  rfl
theorem add_wv (v w : BitVec 32) : w32 (wv v + wv w) = wv (v + w) := by
  simp only [w32, wrap_mod, wv, BitVec.toNat_add]
  show ((v.toNat : Int) + w.toNat) % 4294967296 = (((v.toNat + w.toNat) % 4294967296 : Nat) : Int)
  omega
theorem sub_wv (v w : BitVec 32) : w32 (wv v - wv w) = wv (v - w) := by
  have h1 := v.isLt; have h2 := w.isLt
  simp only [w32, wrap_mod, wv, BitVec.toNat_sub]
  omega
theorem rol_wv (v : BitVec 32) (n : Nat) (hn : n ≤ 32) : rol (wv v) n = wv (v <<< n ||| v >>> (32 - n)) := by
  rw [rol, ishl_wv v n hn, ishr_wv v (32 - n) (by omega), ibit_or_wv]
theorem ror_wv (v : BitVec 32) (n : Nat) (hn : n ≤ 32) : ror (wv v) n = wv (v >>> n ||| v <<< (32 - n)) := by
  rw [ror, ishl_wv v (32 - n) (by omega), ishr_wv v n hn, ibit_or_wv]
theorem rot_bv (v : BitVec 32) (n : Nat) (h0 : 0 < n) (hn : n < 32) : (v <<< n ||| v >>> (32 - n)) >>> n ||| (v <<< n ||| v >>> (32 - n)) <<< (32 - n) = v := by
  apply BitVec.eq_of_getLsbD_eq
  intro i hi
  simp only [BitVec.getLsbD_or, BitVec.getLsbD_ushiftRight, BitVec.getLsbD_shiftLeft]
  by_cases h : i < 32 - n
  · have h1 : n + i < 32 := by omega
    have h2 : v.getLsbD (32 - n + (n + i)) = false := BitVec.getLsbD_of_ge _ _ (by omega)
    simp [h, h1, h2]
  · have h1 : ¬ n + i < 32 := by omega
    have h2 : v.getLsbD (32 - n + (n + i)) = false := BitVec.getLsbD_of_ge _ _ (by omega)
    have h3 : i - (32 - n) < n := by omega
    have h4 : 32 - n + (i - (32 - n)) = i := by omega
    simp [h, h1, h2, h3, h4, hi]
theorem ror_rol {x : Int} (hx : okW x = true) (n : Nat) (h0 : 0 < n) (hn : n < 32) : ror (rol x n) n = x := by
  rw [wv_of hx, rol_wv _ n (by omega), ror_wv _ n (by omega), rot_bv _ n h0 hn]
theorem xor_back {x y : Int} (hx : okW x = true) (hy : okW y = true) : x32 (x32 x y) y = x := by
  rw [wv_of hx, wv_of hy, x32, x32, ibit_xor_wv, ibit_xor_wv, BitVec.xor_assoc, BitVec.xor_self, BitVec.xor_zero]
theorem sub_back {x y : Int} (hx : okW x = true) (hy : okW y = true) : w32 (w32 (x + y) - y) = x := by
  rw [wv_of hx, wv_of hy, add_wv, sub_wv, BitVec.add_sub_cancel]
theorem ok_add {x y : Int} (hx : okW x = true) (hy : okW y = true) : okW (w32 (x + y)) = true := by
  rw [wv_of hx, wv_of hy, add_wv]; exact wv_ok _
theorem ok_xor {x y : Int} (hx : okW x = true) (hy : okW y = true) : okW (x32 x y) = true := by
  rw [wv_of hx, wv_of hy, x32, ibit_xor_wv]; exact wv_ok _
theorem ok_rol {x : Int} (hx : okW x = true) (n : Nat) (hn : n ≤ 32) : okW (rol x n) = true := by
  rw [wv_of hx, rol_wv _ n hn]; exact wv_ok _

def Q.ok (q : Q) : Prop := okW q.a = true ∧ okW q.b = true ∧ okW q.c = true ∧ okW q.d = true

/-- One round back. -/
def unr (q : Q) : Q :=
  let c := ror q.c 16
  let b := ror (x32 q.b c) 7
  let c := w32 (c - b)
  let d := ror (x32 q.d q.a) 13
  let a := w32 (q.a - d)
  let d := ror (x32 d c) 8
  let c := w32 (c - d)
  let a := ror a 16
  let b := ror (x32 b a) 5
  let a := w32 (a - b)
  ⟨a, b, c, d⟩

theorem rnd_ok {q : Q} (h : q.ok) : (rnd q).ok := by
  obtain ⟨ha, hb, hc, hd⟩ := h
  have a1 := ok_add ha hb
  have b1 := ok_xor (ok_rol hb 5 (by decide)) a1
  have a2 := ok_rol a1 16 (by decide)
  have c1 := ok_add hc hd
  have d1 := ok_xor (ok_rol hd 8 (by decide)) c1
  have a3 := ok_add a2 d1
  have d2 := ok_xor (ok_rol d1 13 (by decide)) a3
  have c2 := ok_add c1 b1
  have b2 := ok_xor (ok_rol b1 7 (by decide)) c2
  exact ⟨a3, b2, ok_rol c2 16 (by decide), d2⟩

theorem unr_rnd {q : Q} (h : q.ok) : unr (rnd q) = q := by
  obtain ⟨ha, hb, hc, hd⟩ := h
  have a1 := ok_add ha hb
  have b1 := ok_xor (ok_rol hb 5 (by decide)) a1
  have a2 := ok_rol a1 16 (by decide)
  have c1 := ok_add hc hd
  have d1 := ok_xor (ok_rol hd 8 (by decide)) c1
  have a3 := ok_add a2 d1
  have d2 := ok_xor (ok_rol d1 13 (by decide)) a3
  have c2 := ok_add c1 b1
  simp only [unr, rnd]
  simp only [ror_rol c2 16 (by decide) (by decide), xor_back (ok_rol b1 7 (by decide)) c2, ror_rol b1 7 (by decide) (by decide), sub_back c1 b1, xor_back (ok_rol d1 13 (by decide)) a3, ror_rol d1 13 (by decide) (by decide), sub_back a2 d1,
    xor_back (ok_rol hd 8 (by decide)) c1, ror_rol hd 8 (by decide) (by decide), sub_back hc hd, ror_rol a1 16 (by decide) (by decide), xor_back (ok_rol hb 5 (by decide)) a1, ror_rol hb 5 (by decide) (by decide), sub_back ha hb]

def unrs : Nat → Q → Q
  | 0, q => q
  | n + 1, q => unrs n (unr q)

theorem rnds_end : ∀ (n : Nat) (q : Q), rnds (n + 1) q = rnd (rnds n q)
  | 0, q => rfl
  | n + 1, q => by rw [rnds, rnds_end n (rnd q)]; rfl
theorem rnds_ok : ∀ (n : Nat) {q : Q}, q.ok → (rnds n q).ok
  | 0, _, h => h
  | n + 1, _, h => rnds_ok n (rnd_ok h)
theorem unrs_rnds : ∀ (n : Nat) {q : Q}, q.ok → unrs n (rnds n q) = q
  | 0, _, _ => rfl
  | n + 1, q, h => by
    rw [rnds_end, unrs, unr_rnd (rnds_ok n h)]
    exact unrs_rnds n h

theorem loop3 {E : Env} (h10 : E 10 = some (.code c10)) (vars : Vars) (b1 b3 : Blk) (hv : vars = [(1, b1), (3, b3)]) : ∀ (n : Nat) (i : Int) (q : Q), 0 ≤ i → i + n = 12 →
    blockR 0 [1, 4, 5, 6, 7] (loopR E [1, 4, 5, 6, 7, 8, 9] l3_0 ⟨[(1, .loc 1 0), (4, .int .u32 q.a), (5, .int .u32 q.b), (6, .int .u32 q.c), (7, .int .u32 q.d), (8, .fn 10 []), (9, .int .i64 i)], [(1, b1)], []⟩) =
      some (.norm, ⟨[(1, .loc 1 0), (4, .int .u32 (unrs n q).a), (5, .int .u32 (unrs n q).b), (6, .int .u32 (unrs n q).c), (7, .int .u32 (unrs n q).d)], [(1, b1)], []⟩)
  | 0, i, q, hi, h => by
    have h1 : ¬ i < 12 := by omega
    rw [loopR, l3_0]
    simp only [Aa, Ab, Ac, Ad, Ae, Af, Ag, Ah, Ai, Aj, Ak, Al, Am, Ao, Ap, Aq, Ar, Au, Av, Aw, Ay, Az, Ba, Bb, Bc, Bd, Be, Bf, Bg, Bh, Bi, Bj, Bk, Bl, Bm, Bn, Bo, Bp, Bq, Br, Bs, Bt, Bv, Bw, Bx, Bz, Ca, Cb, Cc, Cd, Ce, Cf, Cg, Ch, Ci, Cj, Ck, Cl, Cm, Cn, Co, Cp, Cq, Cr, Cs, Ct, Cu, Cv, Cw, Cy, Cz, Da, Option.map_some, Db, Dc, De, Df, Dg, Dh, Di, Dj, Dk, Dl, Dm, Dn, Dp, Dq, Dr, Dt, Du, Dv, Dw, Dx, Dy, Dz, Ea, Eb, Ec, Ed, Ee, Ef, Eg, Eh, Ei, Ej, Ek, El, Em, Eo, Ep, Er, Es, Et, Eu, Ev, Ew, Ey, Ez, Fa, Fb, Fc, Fe, Ff, Fg, Fh, Fj, Fl, Fm, Fp, Fq, Fs, Ft, Fu, Fv, Fw, Fx, Nat.reduceEqDiff, Nat.reduceAdd, Nat.reduceMul, Nat.reduceLT, Nat.reduceLeDiff, ↓reduceIte, Lw, Lx, Nat.reduceBEq, Ly, Ma, Mb, Mc, reduceCtorEq, Md, Me, Fy, Fz, Ga, Gb, Gc, Gd, Ge, Gf, Gg, Gh, Gi, Gj, Gk, Gl, Gm, Gn, Gp, Gq, Gr, Gs, Gt, Gu, Gv, Gw, Gx, Gy, Gz, Ha, Hb, Hc, Hd, He, Hf, Hg, Hh, Hj, Hk, Hl, Hm, Hn, Ho, Hq, Hr, Hs, Ht, Hu, Hv, Hw, Hy, Hz, Ia, Ib, Ic, Ie, Ig, Ih, Ii, Ij, Ik, Il, Im, Io, Ip, Iq, Ir, Iu, Iv, Iw, Iy, Iz, Ja, Jb, Jc, Jd, Je, Jf, Jg, Jh, Ji, Jj, Jk, Jl, Jm, Jn, Jo, Jp, Jq, Jr, Js, Jt, Ju, Jv, Jw, Jy, Jz, Ka, Kb, Kc, Ke, Kf, Kg, Kh, Ki, Kj, Kk, Kl, Km, Kn, Ko, Kq, Kr, Ks, Kt, Ku, Kv, Kw, Kx, Ky, Kz, and_self, true_and, and_true, Mf, Mg, Mh, Mi, Mj, Mk, Ml, Mm, Mn, Mo, Mp, Mq, Mr, Ms, Int.reduceToNat, Int.reduceLT, Int.reduceEq, Int.reduceLE, List.getElem?_cons_zero, List.getElem?_cons_succ, La, Lb, Lc, Mt, Mu, Mv, Mw, gt_iff_lt, ge_iff_le, Ld, Le, Lf, Lg, Lh, Li, Mx, My, Lj, Ll, Lm, Ln, Lp, Lr, Ls, Lt, Lu, Lv, Mz, Na, h1, decide_false, unrs]
  | n + 1, i, q, hi, h => by
    have ih := loop3 h10 vars b1 b3 hv n (i + 1) (unr q) (by omega) (by omega)
    have h1 : i < 12 := by omega
    have h2 : IntKind.i64.wrap (i + 1) = i + 1 := wrap_i64 (by omega) (by omega)
    have r16 := fun x hp => d_ror h10 x 16 (by decide) hp
    have r7 := fun x hp => d_ror h10 x 7 (by decide) hp
    have r13 := fun x hp => d_ror h10 x 13 (by decide) hp
    have r8 := fun x hp => d_ror h10 x 8 (by decide) hp
    have r5 := fun x hp => d_ror h10 x 5 (by decide) hp
    simp only [Int.cast_ofNat_Int] at r16 r7 r13 r8 r5
    rw [loopR]
    conv => lhs; arg 3; arg 1; rw [l3_0]
    simp only [Aa, Ab, Ac, Ad, Ae, Af, Ag, Ah, Ai, Aj, Ak, Al, Am, Ao, Ap, Aq, Ar, Au, Av, Aw, Ay, Az, Ba, Bb, Bc, Bd, Be, Bf, Bg, Bh, Bi, Bj, Bk, Bl, Bm, Bn, Bo, Bp, Bq, Br, Bs, Bt, Bv, Bw, Bx, Bz, Ca, Cb, Cc, Cd, Ce, Cf, Cg, Ch, Ci, Cj, Ck, Cl, Cm, Cn, Co, Cp, Cq, Cr, Cs, Ct, Cu, Cv, Cw, Cy, Cz, Da, Option.map_some, Db, Dc, De, Df, Dg, Dh, Di, Dj, Dk, Dl, Dm, Dn, Dp, Dq, Dr, Dt, Du, Dv, Dw, Dx, Dy, Dz, Ea, Eb, Ec, Ed, Ee, Ef, Eg, Eh, Ei, Ej, Ek, El, Em, Eo, Ep, Er, Es, Et, Eu, Ev, Ew, Ey, Ez, Fa, Fb, Fc, Fe, Ff, Fg, Fh, Fj, Fl, Fm, Fp, Fq, Fs, Ft, Fu, Fv, Fw, Fx, Nat.reduceEqDiff, Nat.reduceAdd, Nat.reduceMul, Nat.reduceLT, Nat.reduceLeDiff, ↓reduceIte, Lw, Lx, Nat.reduceBEq, Ly, Ma, Mb, Mc, reduceCtorEq, Md, Me, Fy, Fz, Ga, Gb, Gc, Gd, Ge, Gf, Gg, Gh, Gi, Gj, Gk, Gl, Gm, Gn, Gp, Gq, Gr, Gs, Gt, Gu, Gv, Gw, Gx, Gy, Gz, Ha, Hb, Hc, Hd, He, Hf, Hg, Hh, Hj, Hk, Hl, Hm, Hn, Ho, Hq, Hr, Hs, Ht, Hu, Hv, Hw, Hy, Hz, Ia, Ib, Ic, Ie, Ig, Ih, Ii, Ij, Ik, Il, Im, Io, Ip, Iq, Ir, Iu, Iv, Iw, Iy, Iz, Ja, Jb, Jc, Jd, Je, Jf, Jg, Jh, Ji, Jj, Jk, Jl, Jm, Jn, Jo, Jp, Jq, Jr, Js, Jt, Ju, Jv, Jw, Jy, Jz, Ka, Kb, Kc, Ke, Kf, Kg, Kh, Ki, Kj, Kk, Kl, Km, Kn, Ko, Kq, Kr, Ks, Kt, Ku, Kv, Kw, Kx, Ky, Kz, and_self, true_and, and_true, Mf, Mg, Mh, Mi, Mj, Mk, Ml, Mm, Mn, Mo, Mp, Mq, Mr, Ms, Int.reduceToNat, Int.reduceLT, Int.reduceEq, Int.reduceLE, List.getElem?_cons_zero, List.getElem?_cons_succ, La, Lb, Lc, Mt, Mu, Mv, Mw, gt_iff_lt, ge_iff_le, Ld, Le, Lf, Lg, Lh, Li, Mx, My, Lj, Ll, Lm, Ln, Lp, Lr, Ls, Lt, Lu, Lv, Mz, Na, h1, decide_true, op_callv, onF_deep h10 rfl, List.append_nil, r16, r7, r13, r8, r5, h2]
    exact ih

theorem c_undone {E : Env} (h25 : E 25 = some (.code c25)) (h9 : E 9 = some (.code c9)) (h10 : E 10 = some (.code c10)) (h3 : E 3 = some (.code c3)) {g8 : Fun} (h8 : E 8 = some g8) (h8d : g8.isDeep = true)
    (hsane : ∀ hp, deepE E (Call E) 8 [] hp = some (.bool true)) (q : Q) (hq : q.ok) : ∃ hp, Call E 3 [q.s] [] = some (.bool true, hp) := by
  rw [Call_mk E h3 _ _ rfl]
  have hl := loop3 h10 [(1, .rows false 4 [q.s]), (3, .rows false 4 [(perm q).s])] (.rows false 4 [q.s]) (.rows false 4 [(perm q).s]) rfl 12 0 (perm q) (by decide) (by decide)
  rw [show unrs 12 (perm q) = q from unrs_rnds 12 hq] at hl
  refine ⟨[], ?_⟩
  simp only [Q.s] at hl ⊢
  simp only [Aa, Ab, Ac, Ad, Ae, Af, Ag, Ah, Ai, Aj, Ak, Al, Am, Ao, Ap, Aq, Ar, Au, Av, Aw, Ay, Az, Ba, Bb, Bc, Bd, Be, Bf, Bg, Bh, Bi, Bj, Bk, Bl, Bm, Bn, Bo, Bp, Bq, Br, Bs, Bt, Bv, Bw, Bx, Bz, Ca, Cb, Cc, Cd, Ce, Cf, Cg, Ch, Ci, Cj, Ck, Cl, Cm, Cn, Co, Cp, Cq, Cr, Cs, Ct, Cu, Cv, Cw, Cy, Cz, Da, Option.map_some, Db, Dc, De, Df, Dg, Dh, Di, Dj, Dk, Dl, Dm, Dn, Dp, Dq, Dr, Dt, Du, Dv, Dw, Dx, Dy, Dz, Ea, Eb, Ec, Ed, Ee, Ef, Eg, Eh, Ei, Ej, Ek, El, Em, Eo, Ep, Er, Es, Et, Eu, Ev, Ew, Ey, Ez, Fa, Fb, Fc, Fe, Ff, Fg, Fh, Fj, Fl, Fm, Fp, Fq, Fs, Ft, Fu, Fv, Fw, Fx, Nat.reduceEqDiff, Nat.reduceAdd, Nat.reduceMul, Nat.reduceLT, Nat.reduceLeDiff, ↓reduceIte, Lw, Lx, Nat.reduceBEq, Ly, Ma, Mb, Mc, reduceCtorEq, Md, Me, Fy, Fz, Ga, Gb, Gc, Gd, Ge, Gf, Gg, Gh, Gi, Gj, Gk, Gl, Gm, Gn, Gp, Gq, Gr, Gs, Gt, Gu, Gv, Gw, Gx, Gy, Gz, Ha, Hb, Hc, Hd, He, Hf, Hg, Hh, Hj, Hk, Hl, Hm, Hn, Ho, Hq, Hr, Hs, Ht, Hu, Hv, Hw, Hy, Hz, Ia, Ib, Ic, Ie, Ig, Ih, Ii, Ij, Ik, Il, Im, Io, Ip, Iq, Ir, Iu, Iv, Iw, Iy, Iz, Ja, Jb, Jc, Jd, Je, Jf, Jg, Jh, Ji, Jj, Jk, Jl, Jm, Jn, Jo, Jp, Jq, Jr, Js, Jt, Ju, Jv, Jw, Jy, Jz, Ka, Kb, Kc, Ke, Kf, Kg, Kh, Ki, Kj, Kk, Kl, Km, Kn, Ko, Kq, Kr, Ks, Kt, Ku, Kv, Kw, Kx, Ky, Kz, and_self, true_and, and_true, Mf, Mg, Mh, Mi, Mj, Mk, Ml, Mm, Mn, Mo, Mp, Mq, Mr, Ms, Int.reduceToNat, Int.reduceLT, Int.reduceEq, Int.reduceLE, List.getElem?_cons_zero, List.getElem?_cons_succ, La, Lb, Lc, Mt, Mu, Mv, Mw, gt_iff_lt, ge_iff_le, Ld, Le, Lf, Lg, Lh, Li, Mx, My, Lj, Ll, Lm, Ln, Lp, Lr, Ls, Lt, Lu, Lv, Mz, Na, op_call_deep _ _ h9 rfl, op_call_deep _ _ h8 h8d, d_perm9 h25 h9, hsane, Q.s, rd3_0, d3_0, eqvS_four]
  rw [hl]
  simp only [Aa, Ab, Ac, Ad, Ae, Af, Ag, Ah, Ai, Aj, Ak, Al, Am, Ao, Ap, Aq, Ar, Au, Av, Aw, Ay, Az, Ba, Bb, Bc, Bd, Be, Bf, Bg, Bh, Bi, Bj, Bk, Bl, Bm, Bn, Bo, Bp, Bq, Br, Bs, Bt, Bv, Bw, Bx, Bz, Ca, Cb, Cc, Cd, Ce, Cf, Cg, Ch, Ci, Cj, Ck, Cl, Cm, Cn, Co, Cp, Cq, Cr, Cs, Ct, Cu, Cv, Cw, Cy, Cz, Da, Option.map_some, Db, Dc, De, Df, Dg, Dh, Di, Dj, Dk, Dl, Dm, Dn, Dp, Dq, Dr, Dt, Du, Dv, Dw, Dx, Dy, Dz, Ea, Eb, Ec, Ed, Ee, Ef, Eg, Eh, Ei, Ej, Ek, El, Em, Eo, Ep, Er, Es, Et, Eu, Ev, Ew, Ey, Ez, Fa, Fb, Fc, Fe, Ff, Fg, Fh, Fj, Fl, Fm, Fp, Fq, Fs, Ft, Fu, Fv, Fw, Fx, Nat.reduceEqDiff, Nat.reduceAdd, Nat.reduceMul, Nat.reduceLT, Nat.reduceLeDiff, ↓reduceIte, Lw, Lx, Nat.reduceBEq, Ly, Ma, Mb, Mc, reduceCtorEq, Md, Me, Fy, Fz, Ga, Gb, Gc, Gd, Ge, Gf, Gg, Gh, Gi, Gj, Gk, Gl, Gm, Gn, Gp, Gq, Gr, Gs, Gt, Gu, Gv, Gw, Gx, Gy, Gz, Ha, Hb, Hc, Hd, He, Hf, Hg, Hh, Hj, Hk, Hl, Hm, Hn, Ho, Hq, Hr, Hs, Ht, Hu, Hv, Hw, Hy, Hz, Ia, Ib, Ic, Ie, Ig, Ih, Ii, Ij, Ik, Il, Im, Io, Ip, Iq, Ir, Iu, Iv, Iw, Iy, Iz, Ja, Jb, Jc, Jd, Je, Jf, Jg, Jh, Ji, Jj, Jk, Jl, Jm, Jn, Jo, Jp, Jq, Jr, Js, Jt, Ju, Jv, Jw, Jy, Jz, Ka, Kb, Kc, Ke, Kf, Kg, Kh, Ki, Kj, Kk, Kl, Km, Kn, Ko, Kq, Kr, Ks, Kt, Ku, Kv, Kw, Kx, Ky, Kz, and_self, true_and, and_true, Mf, Mg, Mh, Mi, Mj, Mk, Ml, Mm, Mn, Mo, Mp, Mq, Mr, Ms, Int.reduceToNat, Int.reduceLT, Int.reduceEq, Int.reduceLE, List.getElem?_cons_zero, List.getElem?_cons_succ, La, Lb, Lc, Mt, Mu, Mv, Mw, gt_iff_lt, ge_iff_le, Ld, Le, Lf, Lg, Lh, Li, Mx, My, Lj, Ll, Lm, Ln, Lp, Lr, Ls, Lt, Lu, Lv, Mz, Na, op_call_deep _ _ h9 rfl, op_call_deep _ _ h8 h8d, d_perm9 h25 h9, hsane, Q.s, eqvS_four]
end Go.Proofs.Ytepedjncjehmgaa.Sim
namespace Go.Proofs.Ytepedjncjehmgaa.Sim
set_option linter.unusedSimpArgs false
set_option linter.unusedVariables false
open Go
set_option maxRecDepth 100000
set_option linter.unusedSimpArgs false

theorem d_rot26 {E : Env} (h26 : E 26 = some (.code c26)) (x : Int) (n : Nat) (hn : n < 32) (hp : Hp) : deepE E (Call E) 26 [.int .u32 x, .int .u64 n] hp = some (.int .u32 (rol x n)) := by
  rw [deep_code h26 rfl, deep_go]
  simp only [mapO_nil, mapO_cons, consO_some, snapA_int, goD_some]
  rw [Call_mk E h26 _ _ rfl]
  have h2 : IntKind.u64.wrap (32 - (n : Int)) = ((32 - n : Nat) : Int) := by
    have : ∀ m < 32, IntKind.u64.wrap (32 - ((m : Nat) : Int)) = ((32 - m : Nat) : Int) := by decide
    exact this n hn
  have h3 : ¬ ((n : Int) < 0) := by omega
  have h4 : ¬ (((32 - n : Nat) : Int) < 0) := by omega
  simp only [Aa, Ab, Ac, Ad, Ae, Af, Ag, Ah, Ai, Aj, Ak, Al, Am, Ao, Ap, Aq, Ar, Au, Av, Aw, Ay, Az, Ba, Bb, Bc, Bd, Be, Bf, Bg, Bh, Bi, Bj, Bk, Bl, Bm, Bn, Bo, Bp, Bq, Br, Bs, Bt, Bv, Bw, Bx, Bz, Ca, Cb, Cc, Cd, Ce, Cf, Cg, Ch, Ci, Cj, Ck, Cl, Cm, Cn, Co, Cp, Cq, Cr, Cs, Ct, Cu, Cv, Cw, Cy, Cz, Da, Option.map_some, Db, Dc, De, Df, Dg, Dh, Di, Dj, Dk, Dl, Dm, Dn, Dp, Dq, Dr, Dt, Du, Dv, Dw, Dx, Dy, Dz, Ea, Eb, Ec, Ed, Ee, Ef, Eg, Eh, Ei, Ej, Ek, El, Em, Eo, Ep, Er, Es, Et, Eu, Ev, Ew, Ey, Ez, Fa, Fb, Fc, Fe, Ff, Fg, Fh, Fj, Fl, Fm, Fp, Fq, Fs, Ft, Fu, Fv, Fw, Fx, Nat.reduceEqDiff, Nat.reduceAdd, Nat.reduceMul, Nat.reduceLT, Nat.reduceLeDiff, ↓reduceIte, Lw, Lx, Nat.reduceBEq, Ly, Ma, Mb, Mc, reduceCtorEq, Md, Me, Fy, Fz, Ga, Gb, Gc, Gd, Ge, Gf, Gg, Gh, Gi, Gj, Gk, Gl, Gm, Gn, Gp, Gq, Gr, Gs, Gt, Gu, Gv, Gw, Gx, Gy, Gz, Ha, Hb, Hc, Hd, He, Hf, Hg, Hh, Hj, Hk, Hl, Hm, Hn, Ho, Hq, Hr, Hs, Ht, Hu, Hv, Hw, Hy, Hz, Ia, Ib, Ic, Ie, Ig, Ih, Ii, Ij, Ik, Il, Im, Io, Ip, Iq, Ir, Iu, Iv, Iw, Iy, Iz, Ja, Jb, Jc, Jd, Je, Jf, Jg, Jh, Ji, Jj, Jk, Jl, Jm, Jn, Jo, Jp, Jq, Jr, Js, Jt, Ju, Jv, Jw, Jy, Jz, Ka, Kb, Kc, Ke, Kf, Kg, Kh, Ki, Kj, Kk, Kl, Km, Kn, Ko, Kq, Kr, Ks, Kt, Ku, Kv, Kw, Kx, Ky, Kz, and_self, true_and, and_true, Mf, Mg, Mh, Mi, Mj, Mk, Ml, Mm, Mn, Mo, Mp, Mq, Mr, Ms, Int.reduceToNat, Int.reduceLT, Int.reduceEq, Int.reduceLE, List.getElem?_cons_zero, List.getElem?_cons_succ, La, Lb, Lc, Mt, Mu, Mv, Mw, gt_iff_lt, ge_iff_le, Ld, Le, Lf, Lg, Lh, Li, Mx, My, Lj, Ll, Lm, Ln, Lp, Lr, Ls, Lt, Lu, Lv, Mz, Na, h2, h3, h4, Int.toNat_natCast, rol]

theorem loop13 {E : Env} (h26 : E 26 = some (.code c26)) (vars : Vars) (b : Blk) (hv : vars = [(2, b)]) : ∀ (n : Nat) (i : Int) (q : Q), 0 ≤ i → i + n = 12 →
    blockR 0 [2, 3, 4, 5, 6] (loopR E [2, 3, 4, 5, 6, 7] l13_0 ⟨[(2, .loc 2 0), (3, .int .u32 q.a), (4, .int .u32 q.b), (5, .int .u32 q.c), (6, .int .u32 q.d), (7, .int .i64 i)], vars, []⟩) =
      some (.norm, ⟨[(2, .loc 2 0), (3, .int .u32 (rnds n q).a), (4, .int .u32 (rnds n q).b), (5, .int .u32 (rnds n q).c), (6, .int .u32 (rnds n q).d)], vars, []⟩)
  | 0, i, q, hi, h => by
    subst hv
    have h1 : ¬ i < 12 := by omega
    rw [loopR, l13_0]
    simp only [Aa, Ab, Ac, Ad, Ae, Af, Ag, Ah, Ai, Aj, Ak, Al, Am, Ao, Ap, Aq, Ar, Au, Av, Aw, Ay, Az, Ba, Bb, Bc, Bd, Be, Bf, Bg, Bh, Bi, Bj, Bk, Bl, Bm, Bn, Bo, Bp, Bq, Br, Bs, Bt, Bv, Bw, Bx, Bz, Ca, Cb, Cc, Cd, Ce, Cf, Cg, Ch, Ci, Cj, Ck, Cl, Cm, Cn, Co, Cp, Cq, Cr, Cs, Ct, Cu, Cv, Cw, Cy, Cz, Da, Option.map_some, Db, Dc, De, Df, Dg, Dh, Di, Dj, Dk, Dl, Dm, Dn, Dp, Dq, Dr, Dt, Du, Dv, Dw, Dx, Dy, Dz, Ea, Eb, Ec, Ed, Ee, Ef, Eg, Eh, Ei, Ej, Ek, El, Em, Eo, Ep, Er, Es, Et, Eu, Ev, Ew, Ey, Ez, Fa, Fb, Fc, Fe, Ff, Fg, Fh, Fj, Fl, Fm, Fp, Fq, Fs, Ft, Fu, Fv, Fw, Fx, Nat.reduceEqDiff, Nat.reduceAdd, Nat.reduceMul, Nat.reduceLT, Nat.reduceLeDiff, ↓reduceIte, Lw, Lx, Nat.reduceBEq, Ly, Ma, Mb, Mc, reduceCtorEq, Md, Me, Fy, Fz, Ga, Gb, Gc, Gd, Ge, Gf, Gg, Gh, Gi, Gj, Gk, Gl, Gm, Gn, Gp, Gq, Gr, Gs, Gt, Gu, Gv, Gw, Gx, Gy, Gz, Ha, Hb, Hc, Hd, He, Hf, Hg, Hh, Hj, Hk, Hl, Hm, Hn, Ho, Hq, Hr, Hs, Ht, Hu, Hv, Hw, Hy, Hz, Ia, Ib, Ic, Ie, Ig, Ih, Ii, Ij, Ik, Il, Im, Io, Ip, Iq, Ir, Iu, Iv, Iw, Iy, Iz, Ja, Jb, Jc, Jd, Je, Jf, Jg, Jh, Ji, Jj, Jk, Jl, Jm, Jn, Jo, Jp, Jq, Jr, Js, Jt, Ju, Jv, Jw, Jy, Jz, Ka, Kb, Kc, Ke, Kf, Kg, Kh, Ki, Kj, Kk, Kl, Km, Kn, Ko, Kq, Kr, Ks, Kt, Ku, Kv, Kw, Kx, Ky, Kz, and_self, true_and, and_true, Mf, Mg, Mh, Mi, Mj, Mk, Ml, Mm, Mn, Mo, Mp, Mq, Mr, Ms, Int.reduceToNat, Int.reduceLT, Int.reduceEq, Int.reduceLE, List.getElem?_cons_zero, List.getElem?_cons_succ, La, Lb, Lc, Mt, Mu, Mv, Mw, gt_iff_lt, ge_iff_le, Ld, Le, Lf, Lg, Lh, Li, Mx, My, Lj, Ll, Lm, Ln, Lp, Lr, Ls, Lt, Lu, Lv, Mz, Na, h1, decide_false, rnds]
  | n + 1, i, q, hi, h => by
    have ih := loop13 h26 vars b hv n (i + 1) (rnd q) (by omega) (by omega)
    subst hv
    have h1 : i < 12 := by omega
    have h2 : IntKind.i64.wrap (i + 1) = i + 1 := wrap_i64 (by omega) (by omega)
    have r16 := fun x hp => d_rot26 h26 x 16 (by decide) hp
    have r7 := fun x hp => d_rot26 h26 x 7 (by decide) hp
    have r13 := fun x hp => d_rot26 h26 x 13 (by decide) hp
    have r8 := fun x hp => d_rot26 h26 x 8 (by decide) hp
    have r5 := fun x hp => d_rot26 h26 x 5 (by decide) hp
    simp only [Int.cast_ofNat_Int] at r16 r7 r13 r8 r5
    rw [loopR]
    conv => lhs; arg 3; arg 1; rw [l13_0]
    simp only [Aa, Ab, Ac, Ad, Ae, Af, Ag, Ah, Ai, Aj, Ak, Al, Am, Ao, Ap, Aq, Ar, Au, Av, Aw, Ay, Az, Ba, Bb, Bc, Bd, Be, Bf, Bg, Bh, Bi, Bj, Bk, Bl, Bm, Bn, Bo, Bp, Bq, Br, Bs, Bt, Bv, Bw, Bx, Bz, Ca, Cb, Cc, Cd, Ce, Cf, Cg, Ch, Ci, Cj, Ck, Cl, Cm, Cn, Co, Cp, Cq, Cr, Cs, Ct, Cu, Cv, Cw, Cy, Cz, Da, Option.map_some, Db, Dc, De, Df, Dg, Dh, Di, Dj, Dk, Dl, Dm, Dn, Dp, Dq, Dr, Dt, Du, Dv, Dw, Dx, Dy, Dz, Ea, Eb, Ec, Ed, Ee, Ef, Eg, Eh, Ei, Ej, Ek, El, Em, Eo, Ep, Er, Es, Et, Eu, Ev, Ew, Ey, Ez, Fa, Fb, Fc, Fe, Ff, Fg, Fh, Fj, Fl, Fm, Fp, Fq, Fs, Ft, Fu, Fv, Fw, Fx, Nat.reduceEqDiff, Nat.reduceAdd, Nat.reduceMul, Nat.reduceLT, Nat.reduceLeDiff, ↓reduceIte, Lw, Lx, Nat.reduceBEq, Ly, Ma, Mb, Mc, reduceCtorEq, Md, Me, Fy, Fz, Ga, Gb, Gc, Gd, Ge, Gf, Gg, Gh, Gi, Gj, Gk, Gl, Gm, Gn, Gp, Gq, Gr, Gs, Gt, Gu, Gv, Gw, Gx, Gy, Gz, Ha, Hb, Hc, Hd, He, Hf, Hg, Hh, Hj, Hk, Hl, Hm, Hn, Ho, Hq, Hr, Hs, Ht, Hu, Hv, Hw, Hy, Hz, Ia, Ib, Ic, Ie, Ig, Ih, Ii, Ij, Ik, Il, Im, Io, Ip, Iq, Ir, Iu, Iv, Iw, Iy, Iz, Ja, Jb, Jc, Jd, Je, Jf, Jg, Jh, Ji, Jj, Jk, Jl, Jm, Jn, Jo, Jp, Jq, Jr, Js, Jt, Ju, Jv, Jw, Jy, Jz, Ka, Kb, Kc, Ke, Kf, Kg, Kh, Ki, Kj, Kk, Kl, Km, Kn, Ko, Kq, Kr, Ks, Kt, Ku, Kv, Kw, Kx, Ky, Kz, and_self, true_and, and_true, Mf, Mg, Mh, Mi, Mj, Mk, Ml, Mm, Mn, Mo, Mp, Mq, Mr, Ms, Int.reduceToNat, Int.reduceLT, Int.reduceEq, Int.reduceLE, List.getElem?_cons_zero, List.getElem?_cons_succ, La, Lb, Lc, Mt, Mu, Mv, Mw, gt_iff_lt, ge_iff_le, Ld, Le, Lf, Lg, Lh, Li, Mx, My, Lj, Ll, Lm, Ln, Lp, Lr, Ls, Lt, Lu, Lv, Mz, Na, h1, decide_true, op_call_deep _ _ h26 rfl, r5, r7, r8, r13, r16, h2]
    exact ih

theorem d_permute13 {E : Env} (h26 : E 26 = some (.code c26)) (h13 : E 13 = some (.code c13)) (q : Q) (hp : Hp) : deepE E (Call E) 13 [q.s] hp = some (perm q).s := by
  rw [deep_code h13 rfl, deep_go]
  simp only [Q.s, mapO_nil, mapO_cons, consO_some, snapA_agg, snapC_int, aggO_some, goD_some]
  rw [Call_mk E h13 _ _ rfl]
  have hd : deepB E 26 = true := deepB_code h26 rfl
  simp only [Aa, Ab, Ac, Ad, Ae, Af, Ag, Ah, Ai, Aj, Ak, Al, Am, Ao, Ap, Aq, Ar, Au, Av, Aw, Ay, Az, Ba, Bb, Bc, Bd, Be, Bf, Bg, Bh, Bi, Bj, Bk, Bl, Bm, Bn, Bo, Bp, Bq, Br, Bs, Bt, Bv, Bw, Bx, Bz, Ca, Cb, Cc, Cd, Ce, Cf, Cg, Ch, Ci, Cj, Ck, Cl, Cm, Cn, Co, Cp, Cq, Cr, Cs, Ct, Cu, Cv, Cw, Cy, Cz, Da, Option.map_some, Db, Dc, De, Df, Dg, Dh, Di, Dj, Dk, Dl, Dm, Dn, Dp, Dq, Dr, Dt, Du, Dv, Dw, Dx, Dy, Dz, Ea, Eb, Ec, Ed, Ee, Ef, Eg, Eh, Ei, Ej, Ek, El, Em, Eo, Ep, Er, Es, Et, Eu, Ev, Ew, Ey, Ez, Fa, Fb, Fc, Fe, Ff, Fg, Fh, Fj, Fl, Fm, Fp, Fq, Fs, Ft, Fu, Fv, Fw, Fx, Nat.reduceEqDiff, Nat.reduceAdd, Nat.reduceMul, Nat.reduceLT, Nat.reduceLeDiff, ↓reduceIte, Lw, Lx, Nat.reduceBEq, Ly, Ma, Mb, Mc, reduceCtorEq, Md, Me, Fy, Fz, Ga, Gb, Gc, Gd, Ge, Gf, Gg, Gh, Gi, Gj, Gk, Gl, Gm, Gn, Gp, Gq, Gr, Gs, Gt, Gu, Gv, Gw, Gx, Gy, Gz, Ha, Hb, Hc, Hd, He, Hf, Hg, Hh, Hj, Hk, Hl, Hm, Hn, Ho, Hq, Hr, Hs, Ht, Hu, Hv, Hw, Hy, Hz, Ia, Ib, Ic, Ie, Ig, Ih, Ii, Ij, Ik, Il, Im, Io, Ip, Iq, Ir, Iu, Iv, Iw, Iy, Iz, Ja, Jb, Jc, Jd, Je, Jf, Jg, Jh, Ji, Jj, Jk, Jl, Jm, Jn, Jo, Jp, Jq, Jr, Js, Jt, Ju, Jv, Jw, Jy, Jz, Ka, Kb, Kc, Ke, Kf, Kg, Kh, Ki, Kj, Kk, Kl, Km, Kn, Ko, Kq, Kr, Ks, Kt, Ku, Kv, Kw, Kx, Ky, Kz, and_self, true_and, and_true, Mf, Mg, Mh, Mi, Mj, Mk, Ml, Mm, Mn, Mo, Mp, Mq, Mr, Ms, Int.reduceToNat, Int.reduceLT, Int.reduceEq, Int.reduceLE, List.getElem?_cons_zero, List.getElem?_cons_succ, La, Lb, Lc, Mt, Mu, Mv, Mw, gt_iff_lt, ge_iff_le, Ld, Le, Lf, Lg, Lh, Li, Mx, My, Lj, Ll, Lm, Ln, Lp, Lr, Ls, Lt, Lu, Lv, Mz, Na, rd13_0, d13_0]
  rw [loop13 h26 _ _ rfl 12 0 q (by decide) (by decide)]
  simp only [Aa, Ab, Ac, Ad, Ae, Af, Ag, Ah, Ai, Aj, Ak, Al, Am, Ao, Ap, Aq, Ar, Au, Av, Aw, Ay, Az, Ba, Bb, Bc, Bd, Be, Bf, Bg, Bh, Bi, Bj, Bk, Bl, Bm, Bn, Bo, Bp, Bq, Br, Bs, Bt, Bv, Bw, Bx, Bz, Ca, Cb, Cc, Cd, Ce, Cf, Cg, Ch, Ci, Cj, Ck, Cl, Cm, Cn, Co, Cp, Cq, Cr, Cs, Ct, Cu, Cv, Cw, Cy, Cz, Da, Option.map_some, Db, Dc, De, Df, Dg, Dh, Di, Dj, Dk, Dl, Dm, Dn, Dp, Dq, Dr, Dt, Du, Dv, Dw, Dx, Dy, Dz, Ea, Eb, Ec, Ed, Ee, Ef, Eg, Eh, Ei, Ej, Ek, El, Em, Eo, Ep, Er, Es, Et, Eu, Ev, Ew, Ey, Ez, Fa, Fb, Fc, Fe, Ff, Fg, Fh, Fj, Fl, Fm, Fp, Fq, Fs, Ft, Fu, Fv, Fw, Fx, Nat.reduceEqDiff, Nat.reduceAdd, Nat.reduceMul, Nat.reduceLT, Nat.reduceLeDiff, ↓reduceIte, Lw, Lx, Nat.reduceBEq, Ly, Ma, Mb, Mc, reduceCtorEq, Md, Me, Fy, Fz, Ga, Gb, Gc, Gd, Ge, Gf, Gg, Gh, Gi, Gj, Gk, Gl, Gm, Gn, Gp, Gq, Gr, Gs, Gt, Gu, Gv, Gw, Gx, Gy, Gz, Ha, Hb, Hc, Hd, He, Hf, Hg, Hh, Hj, Hk, Hl, Hm, Hn, Ho, Hq, Hr, Hs, Ht, Hu, Hv, Hw, Hy, Hz, Ia, Ib, Ic, Ie, Ig, Ih, Ii, Ij, Ik, Il, Im, Io, Ip, Iq, Ir, Iu, Iv, Iw, Iy, Iz, Ja, Jb, Jc, Jd, Je, Jf, Jg, Jh, Ji, Jj, Jk, Jl, Jm, Jn, Jo, Jp, Jq, Jr, Js, Jt, Ju, Jv, Jw, Jy, Jz, Ka, Kb, Kc, Ke, Kf, Kg, Kh, Ki, Kj, Kk, Kl, Km, Kn, Ko, Kq, Kr, Ks, Kt, Ku, Kv, Kw, Kx, Ky, Kz, and_self, true_and, and_true, Mf, Mg, Mh, Mi, Mj, Mk, Ml, Mm, Mn, Mo, Mp, Mq, Mr, Ms, Int.reduceToNat, Int.reduceLT, Int.reduceEq, Int.reduceLE, List.getElem?_cons_zero, List.getElem?_cons_succ, La, Lb, Lc, Mt, Mu, Mv, Mw, gt_iff_lt, ge_iff_le, Ld, Le, Lf, Lg, Lh, Li, Mx, My, Lj, Ll, Lm, Ln, Lp, Lr, Ls, Lt, Lu, Lv, Mz, Na, perm]

theorem d_perm13 {E : Env} (h26 : E 26 = some (.code c26)) (h13 : E 13 = some (.code c13)) (a b c d : Int) (hp : Hp) : deepE E (Call E) 13 [.agg [.int .u32 a, .int .u32 b, .int .u32 c, .int .u32 d]] hp = some (perm ⟨a, b, c, d⟩).s := d_permute13 h26 h13 ⟨a, b, c, d⟩ hp
theorem loop12 {E : Env} (h26 : E 26 = some (.code c26)) (h13 : E 13 = some (.code c13)) (f p : Bool) (l : List Int) (hl : l.length ≤ 140737488351232) (b4 : Blk) : ∀ (n k : Nat) (q : Q), l.length ≤ k + n →
    blockR 0 [4, 5] (loopR E [1, 4, 5, 6] l12_0 ⟨[(1, .list f p (u32s l)), (4, .loc 4 0), (5, .loc 5 0), (6, .int .i64 k)], [(4, b4), (5, .rows false 4 [q.s])], []⟩) =
      some (.norm, ⟨[(4, .loc 4 0), (5, .loc 5 0)], [(4, b4), (5, .rows false 4 [(wloop (l.drop k) q).s])], []⟩) := by
  intro n
  induction n with
  | zero =>
    intro k q hk
    have h1 : ¬ (k : Int) < (l.length : Int) := by omega
    rw [loopR]
    conv => lhs; arg 3; arg 1; rw [l12_0]
    simp only [Aa, Ab, Ac, Ad, Ae, Af, Ag, Ah, Ai, Aj, Ak, Al, Am, Ao, Ap, Aq, Ar, Au, Av, Aw, Ay, Az, Ba, Bb, Bc, Bd, Be, Bf, Bg, Bh, Bi, Bj, Bk, Bl, Bm, Bn, Bo, Bp, Bq, Br, Bs, Bt, Bv, Bw, Bx, Bz, Ca, Cb, Cc, Cd, Ce, Cf, Cg, Ch, Ci, Cj, Ck, Cl, Cm, Cn, Co, Cp, Cq, Cr, Cs, Ct, Cu, Cv, Cw, Cy, Cz, Da, Option.map_some, Db, Dc, De, Df, Dg, Dh, Di, Dj, Dk, Dl, Dm, Dn, Dp, Dq, Dr, Dt, Du, Dv, Dw, Dx, Dy, Dz, Ea, Eb, Ec, Ed, Ee, Ef, Eg, Eh, Ei, Ej, Ek, El, Em, Eo, Ep, Er, Es, Et, Eu, Ev, Ew, Ey, Ez, Fa, Fb, Fc, Fe, Ff, Fg, Fh, Fj, Fl, Fm, Fp, Fq, Fs, Ft, Fu, Fv, Fw, Fx, Nat.reduceEqDiff, Nat.reduceAdd, Nat.reduceMul, Nat.reduceLT, Nat.reduceLeDiff, ↓reduceIte, Lw, Lx, Nat.reduceBEq, Ly, Ma, Mb, Mc, reduceCtorEq, Md, Me, Fy, Fz, Ga, Gb, Gc, Gd, Ge, Gf, Gg, Gh, Gi, Gj, Gk, Gl, Gm, Gn, Gp, Gq, Gr, Gs, Gt, Gu, Gv, Gw, Gx, Gy, Gz, Ha, Hb, Hc, Hd, He, Hf, Hg, Hh, Hj, Hk, Hl, Hm, Hn, Ho, Hq, Hr, Hs, Ht, Hu, Hv, Hw, Hy, Hz, Ia, Ib, Ic, Ie, Ig, Ih, Ii, Ij, Ik, Il, Im, Io, Ip, Iq, Ir, Iu, Iv, Iw, Iy, Iz, Ja, Jb, Jc, Jd, Je, Jf, Jg, Jh, Ji, Jj, Jk, Jl, Jm, Jn, Jo, Jp, Jq, Jr, Js, Jt, Ju, Jv, Jw, Jy, Jz, Ka, Kb, Kc, Ke, Kf, Kg, Kh, Ki, Kj, Kk, Kl, Km, Kn, Ko, Kq, Kr, Ks, Kt, Ku, Kv, Kw, Kx, Ky, Kz, and_self, true_and, and_true, Mf, Mg, Mh, Mi, Mj, Mk, Ml, Mm, Mn, Mo, Mp, Mq, Mr, Ms, Int.reduceToNat, Int.reduceLT, Int.reduceEq, Int.reduceLE, List.getElem?_cons_zero, List.getElem?_cons_succ, La, Lb, Lc, Mt, Mu, Mv, Mw, gt_iff_lt, ge_iff_le, Ld, Le, Lf, Lg, Lh, Li, Mx, My, Lj, Ll, Lm, Ln, Lp, Lr, Ls, Lt, Lu, Lv, Mz, Na, u32s_len, h1, decide_false]
    rw [List.drop_eq_nil_of_le (by omega)]
    rfl
  | succ n ih =>
    intro k q hk
    by_cases h : k < l.length
    · have h1 : (k : Int) < (l.length : Int) := by omega
      have hx := u32s_get (List.getElem?_eq_getElem h)
      have hw1 : IntKind.i64.wrap ((k : Int) + 1) = ((k + 1 : Nat) : Int) := wrap_i64 (by omega) (by omega)
      have hw2 : IntKind.i64.wrap ((k : Int) + 2) = ((k + 2 : Nat) : Int) := wrap_i64 (by omega) (by omega)
      rw [loopR]
      conv => lhs; arg 3; arg 1; rw [l12_0]
      by_cases h' : k + 1 < l.length
      · have h2 : ((k + 1 : Nat) : Int) < (l.length : Int) := by omega
        have hy := u32s_get (List.getElem?_eq_getElem h')
        have ih' := ih (k + 2) (take2 l[k] l[k + 1] q) (by omega)
        rw [List.drop_eq_getElem_cons h, List.drop_eq_getElem_cons h', wloop]
        simp only [Aa, Ab, Ac, Ad, Ae, Af, Ag, Ah, Ai, Aj, Ak, Al, Am, Ao, Ap, Aq, Ar, Au, Av, Aw, Ay, Az, Ba, Bb, Bc, Bd, Be, Bf, Bg, Bh, Bi, Bj, Bk, Bl, Bm, Bn, Bo, Bp, Bq, Br, Bs, Bt, Bv, Bw, Bx, Bz, Ca, Cb, Cc, Cd, Ce, Cf, Cg, Ch, Ci, Cj, Ck, Cl, Cm, Cn, Co, Cp, Cq, Cr, Cs, Ct, Cu, Cv, Cw, Cy, Cz, Da, Option.map_some, Db, Dc, De, Df, Dg, Dh, Di, Dj, Dk, Dl, Dm, Dn, Dp, Dq, Dr, Dt, Du, Dv, Dw, Dx, Dy, Dz, Ea, Eb, Ec, Ed, Ee, Ef, Eg, Eh, Ei, Ej, Ek, El, Em, Eo, Ep, Er, Es, Et, Eu, Ev, Ew, Ey, Ez, Fa, Fb, Fc, Fe, Ff, Fg, Fh, Fj, Fl, Fm, Fp, Fq, Fs, Ft, Fu, Fv, Fw, Fx, Nat.reduceEqDiff, Nat.reduceAdd, Nat.reduceMul, Nat.reduceLT, Nat.reduceLeDiff, ↓reduceIte, Lw, Lx, Nat.reduceBEq, Ly, Ma, Mb, Mc, reduceCtorEq, Md, Me, Fy, Fz, Ga, Gb, Gc, Gd, Ge, Gf, Gg, Gh, Gi, Gj, Gk, Gl, Gm, Gn, Gp, Gq, Gr, Gs, Gt, Gu, Gv, Gw, Gx, Gy, Gz, Ha, Hb, Hc, Hd, He, Hf, Hg, Hh, Hj, Hk, Hl, Hm, Hn, Ho, Hq, Hr, Hs, Ht, Hu, Hv, Hw, Hy, Hz, Ia, Ib, Ic, Ie, Ig, Ih, Ii, Ij, Ik, Il, Im, Io, Ip, Iq, Ir, Iu, Iv, Iw, Iy, Iz, Ja, Jb, Jc, Jd, Je, Jf, Jg, Jh, Ji, Jj, Jk, Jl, Jm, Jn, Jo, Jp, Jq, Jr, Js, Jt, Ju, Jv, Jw, Jy, Jz, Ka, Kb, Kc, Ke, Kf, Kg, Kh, Ki, Kj, Kk, Kl, Km, Kn, Ko, Kq, Kr, Ks, Kt, Ku, Kv, Kw, Kx, Ky, Kz, and_self, true_and, and_true, Mf, Mg, Mh, Mi, Mj, Mk, Ml, Mm, Mn, Mo, Mp, Mq, Mr, Ms, Int.reduceToNat, Int.reduceLT, Int.reduceEq, Int.reduceLE, List.getElem?_cons_zero, List.getElem?_cons_succ, La, Lb, Lc, Mt, Mu, Mv, Mw, gt_iff_lt, ge_iff_le, Ld, Le, Lf, Lg, Lh, Li, Mx, My, Lj, Ll, Lm, Ln, Lp, Lr, Ls, Lt, Lu, Lv, Mz, Na, u32s_len, h1, h2, decide_true, hx, hy, hw1, hw2, Q.s, op_call_deep _ _ h13 rfl, d_perm13 h26 h13]
        exact ih'
      · have h2 : ¬ ((k + 1 : Nat) : Int) < (l.length : Int) := by omega
        have ih' := ih (k + 2) (take2 l[k] 0 q) (by omega)
        rw [List.drop_eq_nil_of_le (by omega), wloop] at ih'
        rw [List.drop_eq_getElem_cons h, List.drop_eq_nil_of_le (by omega), wloop]
        simp only [Aa, Ab, Ac, Ad, Ae, Af, Ag, Ah, Ai, Aj, Ak, Al, Am, Ao, Ap, Aq, Ar, Au, Av, Aw, Ay, Az, Ba, Bb, Bc, Bd, Be, Bf, Bg, Bh, Bi, Bj, Bk, Bl, Bm, Bn, Bo, Bp, Bq, Br, Bs, Bt, Bv, Bw, Bx, Bz, Ca, Cb, Cc, Cd, Ce, Cf, Cg, Ch, Ci, Cj, Ck, Cl, Cm, Cn, Co, Cp, Cq, Cr, Cs, Ct, Cu, Cv, Cw, Cy, Cz, Da, Option.map_some, Db, Dc, De, Df, Dg, Dh, Di, Dj, Dk, Dl, Dm, Dn, Dp, Dq, Dr, Dt, Du, Dv, Dw, Dx, Dy, Dz, Ea, Eb, Ec, Ed, Ee, Ef, Eg, Eh, Ei, Ej, Ek, El, Em, Eo, Ep, Er, Es, Et, Eu, Ev, Ew, Ey, Ez, Fa, Fb, Fc, Fe, Ff, Fg, Fh, Fj, Fl, Fm, Fp, Fq, Fs, Ft, Fu, Fv, Fw, Fx, Nat.reduceEqDiff, Nat.reduceAdd, Nat.reduceMul, Nat.reduceLT, Nat.reduceLeDiff, ↓reduceIte, Lw, Lx, Nat.reduceBEq, Ly, Ma, Mb, Mc, reduceCtorEq, Md, Me, Fy, Fz, Ga, Gb, Gc, Gd, Ge, Gf, Gg, Gh, Gi, Gj, Gk, Gl, Gm, Gn, Gp, Gq, Gr, Gs, Gt, Gu, Gv, Gw, Gx, Gy, Gz, Ha, Hb, Hc, Hd, He, Hf, Hg, Hh, Hj, Hk, Hl, Hm, Hn, Ho, Hq, Hr, Hs, Ht, Hu, Hv, Hw, Hy, Hz, Ia, Ib, Ic, Ie, Ig, Ih, Ii, Ij, Ik, Il, Im, Io, Ip, Iq, Ir, Iu, Iv, Iw, Iy, Iz, Ja, Jb, Jc, Jd, Je, Jf, Jg, Jh, Ji, Jj, Jk, Jl, Jm, Jn, Jo, Jp, Jq, Jr, Js, Jt, Ju, Jv, Jw, Jy, Jz, Ka, Kb, Kc, Ke, Kf, Kg, Kh, Ki, Kj, Kk, Kl, Km, Kn, Ko, Kq, Kr, Ks, Kt, Ku, Kv, Kw, Kx, Ky, Kz, and_self, true_and, and_true, Mf, Mg, Mh, Mi, Mj, Mk, Ml, Mm, Mn, Mo, Mp, Mq, Mr, Ms, Int.reduceToNat, Int.reduceLT, Int.reduceEq, Int.reduceLE, List.getElem?_cons_zero, List.getElem?_cons_succ, La, Lb, Lc, Mt, Mu, Mv, Mw, gt_iff_lt, ge_iff_le, Ld, Le, Lf, Lg, Lh, Li, Mx, My, Lj, Ll, Lm, Ln, Lp, Lr, Ls, Lt, Lu, Lv, Mz, Na, u32s_len, h1, h2, decide_true, decide_false, hx, hw1, hw2, Q.s, op_call_deep _ _ h13 rfl, d_perm13 h26 h13]
        exact ih'
    · have h1 : ¬ (k : Int) < (l.length : Int) := by omega
      rw [loopR]
      conv => lhs; arg 3; arg 1; rw [l12_0]
      simp only [Aa, Ab, Ac, Ad, Ae, Af, Ag, Ah, Ai, Aj, Ak, Al, Am, Ao, Ap, Aq, Ar, Au, Av, Aw, Ay, Az, Ba, Bb, Bc, Bd, Be, Bf, Bg, Bh, Bi, Bj, Bk, Bl, Bm, Bn, Bo, Bp, Bq, Br, Bs, Bt, Bv, Bw, Bx, Bz, Ca, Cb, Cc, Cd, Ce, Cf, Cg, Ch, Ci, Cj, Ck, Cl, Cm, Cn, Co, Cp, Cq, Cr, Cs, Ct, Cu, Cv, Cw, Cy, Cz, Da, Option.map_some, Db, Dc, De, Df, Dg, Dh, Di, Dj, Dk, Dl, Dm, Dn, Dp, Dq, Dr, Dt, Du, Dv, Dw, Dx, Dy, Dz, Ea, Eb, Ec, Ed, Ee, Ef, Eg, Eh, Ei, Ej, Ek, El, Em, Eo, Ep, Er, Es, Et, Eu, Ev, Ew, Ey, Ez, Fa, Fb, Fc, Fe, Ff, Fg, Fh, Fj, Fl, Fm, Fp, Fq, Fs, Ft, Fu, Fv, Fw, Fx, Nat.reduceEqDiff, Nat.reduceAdd, Nat.reduceMul, Nat.reduceLT, Nat.reduceLeDiff, ↓reduceIte, Lw, Lx, Nat.reduceBEq, Ly, Ma, Mb, Mc, reduceCtorEq, Md, Me, Fy, Fz, Ga, Gb, Gc, Gd, Ge, Gf, Gg, Gh, Gi, Gj, Gk, Gl, Gm, Gn, Gp, Gq, Gr, Gs, Gt, Gu, Gv, Gw, Gx, Gy, Gz, Ha, Hb, Hc, Hd, He, Hf, Hg, Hh, Hj, Hk, Hl, Hm, Hn, Ho, Hq, Hr, Hs, Ht, Hu, Hv, Hw, Hy, Hz, Ia, Ib, Ic, Ie, Ig, Ih, Ii, Ij, Ik, Il, Im, Io, Ip, Iq, Ir, Iu, Iv, Iw, Iy, Iz, Ja, Jb, Jc, Jd, Je, Jf, Jg, Jh, Ji, Jj, Jk, Jl, Jm, Jn, Jo, Jp, Jq, Jr, Js, Jt, Ju, Jv, Jw, Jy, Jz, Ka, Kb, Kc, Ke, Kf, Kg, Kh, Ki, Kj, Kk, Kl, Km, Kn, Ko, Kq, Kr, Ks, Kt, Ku, Kv, Kw, Kx, Ky, Kz, and_self, true_and, and_true, Mf, Mg, Mh, Mi, Mj, Mk, Ml, Mm, Mn, Mo, Mp, Mq, Mr, Ms, Int.reduceToNat, Int.reduceLT, Int.reduceEq, Int.reduceLE, List.getElem?_cons_zero, List.getElem?_cons_succ, La, Lb, Lc, Mt, Mu, Mv, Mw, gt_iff_lt, ge_iff_le, Ld, Le, Lf, Lg, Lh, Li, Mx, My, Lj, Ll, Lm, Ln, Lp, Lr, Ls, Lt, Lu, Lv, Mz, Na, u32s_len, h1, decide_false]
      rw [List.drop_eq_nil_of_le (by omega)]
      rfl

theorem d_words12 {E : Env} (h26 : E 26 = some (.code c26)) (h13 : E 13 = some (.code c13)) (h12 : E 12 = some (.code c12)) (t : Int) (f p : Bool) (l : List Int) (hl : l.length ≤ 140737488351232) (hp : Hp) :
    deepE E (Call E) 12 [.int .u32 t, .list f p (u32s l)] hp = some (words t l).s := by
  rw [deep_code h12 rfl, deep_go]
  simp only [mapO_nil, mapO_cons, consO_some, snapA_int, snapA_list, goD_some]
  rw [Call_mk E h12 _ _ rfl]
  simp only [Aa, Ab, Ac, Ad, Ae, Af, Ag, Ah, Ai, Aj, Ak, Al, Am, Ao, Ap, Aq, Ar, Au, Av, Aw, Ay, Az, Ba, Bb, Bc, Bd, Be, Bf, Bg, Bh, Bi, Bj, Bk, Bl, Bm, Bn, Bo, Bp, Bq, Br, Bs, Bt, Bv, Bw, Bx, Bz, Ca, Cb, Cc, Cd, Ce, Cf, Cg, Ch, Ci, Cj, Ck, Cl, Cm, Cn, Co, Cp, Cq, Cr, Cs, Ct, Cu, Cv, Cw, Cy, Cz, Da, Option.map_some, Db, Dc, De, Df, Dg, Dh, Di, Dj, Dk, Dl, Dm, Dn, Dp, Dq, Dr, Dt, Du, Dv, Dw, Dx, Dy, Dz, Ea, Eb, Ec, Ed, Ee, Ef, Eg, Eh, Ei, Ej, Ek, El, Em, Eo, Ep, Er, Es, Et, Eu, Ev, Ew, Ey, Ez, Fa, Fb, Fc, Fe, Ff, Fg, Fh, Fj, Fl, Fm, Fp, Fq, Fs, Ft, Fu, Fv, Fw, Fx, Nat.reduceEqDiff, Nat.reduceAdd, Nat.reduceMul, Nat.reduceLT, Nat.reduceLeDiff, ↓reduceIte, Lw, Lx, Nat.reduceBEq, Ly, Ma, Mb, Mc, reduceCtorEq, Md, Me, Fy, Fz, Ga, Gb, Gc, Gd, Ge, Gf, Gg, Gh, Gi, Gj, Gk, Gl, Gm, Gn, Gp, Gq, Gr, Gs, Gt, Gu, Gv, Gw, Gx, Gy, Gz, Ha, Hb, Hc, Hd, He, Hf, Hg, Hh, Hj, Hk, Hl, Hm, Hn, Ho, Hq, Hr, Hs, Ht, Hu, Hv, Hw, Hy, Hz, Ia, Ib, Ic, Ie, Ig, Ih, Ii, Ij, Ik, Il, Im, Io, Ip, Iq, Ir, Iu, Iv, Iw, Iy, Iz, Ja, Jb, Jc, Jd, Je, Jf, Jg, Jh, Ji, Jj, Jk, Jl, Jm, Jn, Jo, Jp, Jq, Jr, Js, Jt, Ju, Jv, Jw, Jy, Jz, Ka, Kb, Kc, Ke, Kf, Kg, Kh, Ki, Kj, Kk, Kl, Km, Kn, Ko, Kq, Kr, Ks, Kt, Ku, Kv, Kw, Kx, Ky, Kz, and_self, true_and, and_true, Mf, Mg, Mh, Mi, Mj, Mk, Ml, Mm, Mn, Mo, Mp, Mq, Mr, Ms, Int.reduceToNat, Int.reduceLT, Int.reduceEq, Int.reduceLE, List.getElem?_cons_zero, List.getElem?_cons_succ, La, Lb, Lc, Mt, Mu, Mv, Mw, gt_iff_lt, ge_iff_le, Ld, Le, Lf, Lg, Lh, Li, Mx, My, Lj, Ll, Lm, Ln, Lp, Lr, Ls, Lt, Lu, Lv, Mz, Na, u32s_len]
  have hloop := loop12 h26 h13 f p l hl (.rows false 4 [.agg [.int .u32 0, .int .u32 0, .int .u32 0, .int .u32 0]]) l.length 0 ⟨1702391089, 1651466610, t, w32 l.length⟩ (by omega)
  simp only [Q.s, w32, Int.cast_ofNat_Int] at hloop
  rw [hloop]
  simp only [Aa, Ab, Ac, Ad, Ae, Af, Ag, Ah, Ai, Aj, Ak, Al, Am, Ao, Ap, Aq, Ar, Au, Av, Aw, Ay, Az, Ba, Bb, Bc, Bd, Be, Bf, Bg, Bh, Bi, Bj, Bk, Bl, Bm, Bn, Bo, Bp, Bq, Br, Bs, Bt, Bv, Bw, Bx, Bz, Ca, Cb, Cc, Cd, Ce, Cf, Cg, Ch, Ci, Cj, Ck, Cl, Cm, Cn, Co, Cp, Cq, Cr, Cs, Ct, Cu, Cv, Cw, Cy, Cz, Da, Option.map_some, Db, Dc, De, Df, Dg, Dh, Di, Dj, Dk, Dl, Dm, Dn, Dp, Dq, Dr, Dt, Du, Dv, Dw, Dx, Dy, Dz, Ea, Eb, Ec, Ed, Ee, Ef, Eg, Eh, Ei, Ej, Ek, El, Em, Eo, Ep, Er, Es, Et, Eu, Ev, Ew, Ey, Ez, Fa, Fb, Fc, Fe, Ff, Fg, Fh, Fj, Fl, Fm, Fp, Fq, Fs, Ft, Fu, Fv, Fw, Fx, Nat.reduceEqDiff, Nat.reduceAdd, Nat.reduceMul, Nat.reduceLT, Nat.reduceLeDiff, ↓reduceIte, Lw, Lx, Nat.reduceBEq, Ly, Ma, Mb, Mc, reduceCtorEq, Md, Me, Fy, Fz, Ga, Gb, Gc, Gd, Ge, Gf, Gg, Gh, Gi, Gj, Gk, Gl, Gm, Gn, Gp, Gq, Gr, Gs, Gt, Gu, Gv, Gw, Gx, Gy, Gz, Ha, Hb, Hc, Hd, He, Hf, Hg, Hh, Hj, Hk, Hl, Hm, Hn, Ho, Hq, Hr, Hs, Ht, Hu, Hv, Hw, Hy, Hz, Ia, Ib, Ic, Ie, Ig, Ih, Ii, Ij, Ik, Il, Im, Io, Ip, Iq, Ir, Iu, Iv, Iw, Iy, Iz, Ja, Jb, Jc, Jd, Je, Jf, Jg, Jh, Ji, Jj, Jk, Jl, Jm, Jn, Jo, Jp, Jq, Jr, Js, Jt, Ju, Jv, Jw, Jy, Jz, Ka, Kb, Kc, Ke, Kf, Kg, Kh, Ki, Kj, Kk, Kl, Km, Kn, Ko, Kq, Kr, Ks, Kt, Ku, Kv, Kw, Kx, Ky, Kz, and_self, true_and, and_true, Mf, Mg, Mh, Mi, Mj, Mk, Ml, Mm, Mn, Mo, Mp, Mq, Mr, Ms, Int.reduceToNat, Int.reduceLT, Int.reduceEq, Int.reduceLE, List.getElem?_cons_zero, List.getElem?_cons_succ, La, Lb, Lc, Mt, Mu, Mv, Mw, gt_iff_lt, ge_iff_le, Ld, Le, Lf, Lg, Lh, Li, Mx, My, Lj, Ll, Lm, Ln, Lp, Lr, Ls, Lt, Lu, Lv, Mz, Na, op_call_deep _ _ h13 rfl, d_perm13 h26 h13, List.drop_zero, Q.s, words, w32, x32]

end Go.Proofs.Ytepedjncjehmgaa.Sim
namespace Go.Proofs.Ytepedjncjehmgaa.Sim
set_option linter.unusedSimpArgs false
set_option linter.unusedVariables false
open Go
set_option maxRecDepth 100000
set_option linter.unusedSimpArgs false

theorem loop16 {E : Env} (t : Int) (f p : Bool) (l : List Int) (hl : l.length ≤ 1000) (b4 : Blk) : ∀ (n k : Nat) (acc : List Int), l.length ≤ k + n → acc.length ≤ 2 * k → k ≤ l.length →
    blockR 0 [0, 4, 5] (loopR E [0, 1, 4, 5, 6] l16_0 ⟨[(0, .int .u32 t), (1, .list f p (i64s l)), (4, .loc 4 0), (5, growS [] (u32s acc)), (6, .int .i64 k)], [(4, b4)], growH [] 1 (u32s acc)⟩) =
      some (.norm, ⟨[(0, .int .u32 t), (4, .loc 4 0), (5, growS [] (u32s (acc ++ (l.drop k).flatMap numW)))], [(4, b4)], growH [] 1 (u32s (acc ++ (l.drop k).flatMap numW))⟩) := by
  intro n
  induction n with
  | zero =>
    intro k acc hk ha hkl
    have h1 : ¬ (k : Int) < (l.length : Int) := by omega
    rw [loopR]
    conv => lhs; arg 3; arg 1; rw [l16_0]
    simp only [Aa, Ab, Ac, Ad, Ae, Af, Ag, Ah, Ai, Aj, Ak, Al, Am, Ao, Ap, Aq, Ar, Au, Av, Aw, Ay, Az, Ba, Bb, Bc, Bd, Be, Bf, Bg, Bh, Bi, Bj, Bk, Bl, Bm, Bn, Bo, Bp, Bq, Br, Bs, Bt, Bv, Bw, Bx, Bz, Ca, Cb, Cc, Cd, Ce, Cf, Cg, Ch, Ci, Cj, Ck, Cl, Cm, Cn, Co, Cp, Cq, Cr, Cs, Ct, Cu, Cv, Cw, Cy, Cz, Da, Option.map_some, Db, Dc, De, Df, Dg, Dh, Di, Dj, Dk, Dl, Dm, Dn, Dp, Dq, Dr, Dt, Du, Dv, Dw, Dx, Dy, Dz, Ea, Eb, Ec, Ed, Ee, Ef, Eg, Eh, Ei, Ej, Ek, El, Em, Eo, Ep, Er, Es, Et, Eu, Ev, Ew, Ey, Ez, Fa, Fb, Fc, Fe, Ff, Fg, Fh, Fj, Fl, Fm, Fp, Fq, Fs, Ft, Fu, Fv, Fw, Fx, Nat.reduceEqDiff, Nat.reduceAdd, Nat.reduceMul, Nat.reduceLT, Nat.reduceLeDiff, ↓reduceIte, Lw, Lx, Nat.reduceBEq, Ly, Ma, Mb, Mc, reduceCtorEq, Md, Me, Fy, Fz, Ga, Gb, Gc, Gd, Ge, Gf, Gg, Gh, Gi, Gj, Gk, Gl, Gm, Gn, Gp, Gq, Gr, Gs, Gt, Gu, Gv, Gw, Gx, Gy, Gz, Ha, Hb, Hc, Hd, He, Hf, Hg, Hh, Hj, Hk, Hl, Hm, Hn, Ho, Hq, Hr, Hs, Ht, Hu, Hv, Hw, Hy, Hz, Ia, Ib, Ic, Ie, Ig, Ih, Ii, Ij, Ik, Il, Im, Io, Ip, Iq, Ir, Iu, Iv, Iw, Iy, Iz, Ja, Jb, Jc, Jd, Je, Jf, Jg, Jh, Ji, Jj, Jk, Jl, Jm, Jn, Jo, Jp, Jq, Jr, Js, Jt, Ju, Jv, Jw, Jy, Jz, Ka, Kb, Kc, Ke, Kf, Kg, Kh, Ki, Kj, Kk, Kl, Km, Kn, Ko, Kq, Kr, Ks, Kt, Ku, Kv, Kw, Kx, Ky, Kz, and_self, true_and, and_true, Mf, Mg, Mh, Mi, Mj, Mk, Ml, Mm, Mn, Mo, Mp, Mq, Mr, Ms, Int.reduceToNat, Int.reduceLT, Int.reduceEq, Int.reduceLE, List.getElem?_cons_zero, List.getElem?_cons_succ, La, Lb, Lc, Mt, Mu, Mv, Mw, gt_iff_lt, ge_iff_le, Ld, Le, Lf, Lg, Lh, Li, Mx, My, Lj, Ll, Lm, Ln, Lp, Lr, Ls, Lt, Lu, Lv, Mz, Na, keep1_grow, i64s_len, h1, decide_false]
    rw [List.drop_eq_nil_of_le (by omega)]
    simp only [List.flatMap_nil, List.append_nil]
  | succ n ih =>
    intro k acc hk ha hkl
    by_cases h : k < l.length
    · have h1 : (k : Int) < (l.length : Int) := by omega
      have hx := i64s_get (List.getElem?_eq_getElem h)
      have hw1 : IntKind.i64.wrap ((k : Int) + 1) = ((k + 1 : Nat) : Int) := wrap_i64 (by omega) (by omega)
      have ih' := ih (k + 1) (acc ++ numW l[k]) (by omega) (by simp [numW]; omega) (by omega)
      have hap := fun (d : Nat) (os : List KO) (fr : Fr) (vars : Vars) => app_grow (E := E) (C := Call E) (d := d) (os := os) (fr := fr) (vars := vars) (H := []) (esz := 1) (bytes := 4) (f := true) (p := true) (ys := u32s (numW l[k])) (u32s_esz acc) (u32s_esz _) (by simp [u32s, numW, okLen]; omega) (by simp [u32s, numW])
      rw [← u32s_app] at hap
      have hys : u32s (numW l[k]) = [.int .u32 (IntKind.u32.wrap (IntKind.u64.wrap l[k])), .int .u32 (IntKind.u32.wrap (ishr .u64 (IntKind.u64.wrap l[k]) 32))] := rfl
      rw [hys] at hap
      rw [loopR]
      conv => lhs; arg 3; arg 1; rw [l16_0]
      rw [List.drop_eq_getElem_cons h, List.flatMap_cons, ← List.append_assoc]
      simp only [Aa, Ab, Ac, Ad, Ae, Af, Ag, Ah, Ai, Aj, Ak, Al, Am, Ao, Ap, Aq, Ar, Au, Av, Aw, Ay, Az, Ba, Bb, Bc, Bd, Be, Bf, Bg, Bh, Bi, Bj, Bk, Bl, Bm, Bn, Bo, Bp, Bq, Br, Bs, Bt, Bv, Bw, Bx, Bz, Ca, Cb, Cc, Cd, Ce, Cf, Cg, Ch, Ci, Cj, Ck, Cl, Cm, Cn, Co, Cp, Cq, Cr, Cs, Ct, Cu, Cv, Cw, Cy, Cz, Da, Option.map_some, Db, Dc, De, Df, Dg, Dh, Di, Dj, Dk, Dl, Dm, Dn, Dp, Dq, Dr, Dt, Du, Dv, Dw, Dx, Dy, Dz, Ea, Eb, Ec, Ed, Ee, Ef, Eg, Eh, Ei, Ej, Ek, El, Em, Eo, Ep, Er, Es, Et, Eu, Ev, Ew, Ey, Ez, Fa, Fb, Fc, Fe, Ff, Fg, Fh, Fj, Fl, Fm, Fp, Fq, Fs, Ft, Fu, Fv, Fw, Fx, Nat.reduceEqDiff, Nat.reduceAdd, Nat.reduceMul, Nat.reduceLT, Nat.reduceLeDiff, ↓reduceIte, Lw, Lx, Nat.reduceBEq, Ly, Ma, Mb, Mc, reduceCtorEq, Md, Me, Fy, Fz, Ga, Gb, Gc, Gd, Ge, Gf, Gg, Gh, Gi, Gj, Gk, Gl, Gm, Gn, Gp, Gq, Gr, Gs, Gt, Gu, Gv, Gw, Gx, Gy, Gz, Ha, Hb, Hc, Hd, He, Hf, Hg, Hh, Hj, Hk, Hl, Hm, Hn, Ho, Hq, Hr, Hs, Ht, Hu, Hv, Hw, Hy, Hz, Ia, Ib, Ic, Ie, Ig, Ih, Ii, Ij, Ik, Il, Im, Io, Ip, Iq, Ir, Iu, Iv, Iw, Iy, Iz, Ja, Jb, Jc, Jd, Je, Jf, Jg, Jh, Ji, Jj, Jk, Jl, Jm, Jn, Jo, Jp, Jq, Jr, Js, Jt, Ju, Jv, Jw, Jy, Jz, Ka, Kb, Kc, Ke, Kf, Kg, Kh, Ki, Kj, Kk, Kl, Km, Kn, Ko, Kq, Kr, Ks, Kt, Ku, Kv, Kw, Kx, Ky, Kz, and_self, true_and, and_true, Mf, Mg, Mh, Mi, Mj, Mk, Ml, Mm, Mn, Mo, Mp, Mq, Mr, Ms, Int.reduceToNat, Int.reduceLT, Int.reduceEq, Int.reduceLE, List.getElem?_cons_zero, List.getElem?_cons_succ, La, Lb, Lc, Mt, Mu, Mv, Mw, gt_iff_lt, ge_iff_le, Ld, Le, Lf, Lg, Lh, Li, Mx, My, Lj, Ll, Lm, Ln, Lp, Lr, Ls, Lt, Lu, Lv, Mz, Na, keep1_grow, i64s_len, h1, decide_true, hx, hw1, hap]
      exact ih'
    · have h1 : ¬ (k : Int) < (l.length : Int) := by omega
      rw [loopR]
      conv => lhs; arg 3; arg 1; rw [l16_0]
      simp only [Aa, Ab, Ac, Ad, Ae, Af, Ag, Ah, Ai, Aj, Ak, Al, Am, Ao, Ap, Aq, Ar, Au, Av, Aw, Ay, Az, Ba, Bb, Bc, Bd, Be, Bf, Bg, Bh, Bi, Bj, Bk, Bl, Bm, Bn, Bo, Bp, Bq, Br, Bs, Bt, Bv, Bw, Bx, Bz, Ca, Cb, Cc, Cd, Ce, Cf, Cg, Ch, Ci, Cj, Ck, Cl, Cm, Cn, Co, Cp, Cq, Cr, Cs, Ct, Cu, Cv, Cw, Cy, Cz, Da, Option.map_some, Db, Dc, De, Df, Dg, Dh, Di, Dj, Dk, Dl, Dm, Dn, Dp, Dq, Dr, Dt, Du, Dv, Dw, Dx, Dy, Dz, Ea, Eb, Ec, Ed, Ee, Ef, Eg, Eh, Ei, Ej, Ek, El, Em, Eo, Ep, Er, Es, Et, Eu, Ev, Ew, Ey, Ez, Fa, Fb, Fc, Fe, Ff, Fg, Fh, Fj, Fl, Fm, Fp, Fq, Fs, Ft, Fu, Fv, Fw, Fx, Nat.reduceEqDiff, Nat.reduceAdd, Nat.reduceMul, Nat.reduceLT, Nat.reduceLeDiff, ↓reduceIte, Lw, Lx, Nat.reduceBEq, Ly, Ma, Mb, Mc, reduceCtorEq, Md, Me, Fy, Fz, Ga, Gb, Gc, Gd, Ge, Gf, Gg, Gh, Gi, Gj, Gk, Gl, Gm, Gn, Gp, Gq, Gr, Gs, Gt, Gu, Gv, Gw, Gx, Gy, Gz, Ha, Hb, Hc, Hd, He, Hf, Hg, Hh, Hj, Hk, Hl, Hm, Hn, Ho, Hq, Hr, Hs, Ht, Hu, Hv, Hw, Hy, Hz, Ia, Ib, Ic, Ie, Ig, Ih, Ii, Ij, Ik, Il, Im, Io, Ip, Iq, Ir, Iu, Iv, Iw, Iy, Iz, Ja, Jb, Jc, Jd, Je, Jf, Jg, Jh, Ji, Jj, Jk, Jl, Jm, Jn, Jo, Jp, Jq, Jr, Js, Jt, Ju, Jv, Jw, Jy, Jz, Ka, Kb, Kc, Ke, Kf, Kg, Kh, Ki, Kj, Kk, Kl, Km, Kn, Ko, Kq, Kr, Ks, Kt, Ku, Kv, Kw, Kx, Ky, Kz, and_self, true_and, and_true, Mf, Mg, Mh, Mi, Mj, Mk, Ml, Mm, Mn, Mo, Mp, Mq, Mr, Ms, Int.reduceToNat, Int.reduceLT, Int.reduceEq, Int.reduceLE, List.getElem?_cons_zero, List.getElem?_cons_succ, La, Lb, Lc, Mt, Mu, Mv, Mw, gt_iff_lt, ge_iff_le, Ld, Le, Lf, Lg, Lh, Li, Mx, My, Lj, Ll, Lm, Ln, Lp, Lr, Ls, Lt, Lu, Lv, Mz, Na, keep1_grow, i64s_len, h1, decide_false]
      rw [List.drop_eq_nil_of_le (by omega)]
      simp only [List.flatMap_nil, List.append_nil]


theorem d_numbers16 {E : Env} (h26 : E 26 = some (.code c26)) (h13 : E 13 = some (.code c13)) (h12 : E 12 = some (.code c12)) (h16 : E 16 = some (.code c16)) (t : Int) (f p : Bool) (l : List Int) (hl : l.length ≤ 1000) (hp : Hp) :
    deepE E (Call E) 16 [.int .u32 t, .list f p (i64s l)] hp = some (words t (l.flatMap numW)).s := by
  rw [deep_code h16 rfl, deep_go]
  simp only [mapO_nil, mapO_cons, consO_some, snapA_int, snapA_list, goD_some]
  rw [Call_mk E h16 _ _ rfl]
  simp only [Aa, Ab, Ac, Ad, Ae, Af, Ag, Ah, Ai, Aj, Ak, Al, Am, Ao, Ap, Aq, Ar, Au, Av, Aw, Ay, Az, Ba, Bb, Bc, Bd, Be, Bf, Bg, Bh, Bi, Bj, Bk, Bl, Bm, Bn, Bo, Bp, Bq, Br, Bs, Bt, Bv, Bw, Bx, Bz, Ca, Cb, Cc, Cd, Ce, Cf, Cg, Ch, Ci, Cj, Ck, Cl, Cm, Cn, Co, Cp, Cq, Cr, Cs, Ct, Cu, Cv, Cw, Cy, Cz, Da, Option.map_some, Db, Dc, De, Df, Dg, Dh, Di, Dj, Dk, Dl, Dm, Dn, Dp, Dq, Dr, Dt, Du, Dv, Dw, Dx, Dy, Dz, Ea, Eb, Ec, Ed, Ee, Ef, Eg, Eh, Ei, Ej, Ek, El, Em, Eo, Ep, Er, Es, Et, Eu, Ev, Ew, Ey, Ez, Fa, Fb, Fc, Fe, Ff, Fg, Fh, Fj, Fl, Fm, Fp, Fq, Fs, Ft, Fu, Fv, Fw, Fx, Nat.reduceEqDiff, Nat.reduceAdd, Nat.reduceMul, Nat.reduceLT, Nat.reduceLeDiff, ↓reduceIte, Lw, Lx, Nat.reduceBEq, Ly, Ma, Mb, Mc, reduceCtorEq, Md, Me, Fy, Fz, Ga, Gb, Gc, Gd, Ge, Gf, Gg, Gh, Gi, Gj, Gk, Gl, Gm, Gn, Gp, Gq, Gr, Gs, Gt, Gu, Gv, Gw, Gx, Gy, Gz, Ha, Hb, Hc, Hd, He, Hf, Hg, Hh, Hj, Hk, Hl, Hm, Hn, Ho, Hq, Hr, Hs, Ht, Hu, Hv, Hw, Hy, Hz, Ia, Ib, Ic, Ie, Ig, Ih, Ii, Ij, Ik, Il, Im, Io, Ip, Iq, Ir, Iu, Iv, Iw, Iy, Iz, Ja, Jb, Jc, Jd, Je, Jf, Jg, Jh, Ji, Jj, Jk, Jl, Jm, Jn, Jo, Jp, Jq, Jr, Js, Jt, Ju, Jv, Jw, Jy, Jz, Ka, Kb, Kc, Ke, Kf, Kg, Kh, Ki, Kj, Kk, Kl, Km, Kn, Ko, Kq, Kr, Ks, Kt, Ku, Kv, Kw, Kx, Ky, Kz, and_self, true_and, and_true, Mf, Mg, Mh, Mi, Mj, Mk, Ml, Mm, Mn, Mo, Mp, Mq, Mr, Ms, Int.reduceToNat, Int.reduceLT, Int.reduceEq, Int.reduceLE, List.getElem?_cons_zero, List.getElem?_cons_succ, La, Lb, Lc, Mt, Mu, Mv, Mw, gt_iff_lt, ge_iff_le, Ld, Le, Lf, Lg, Lh, Li, Mx, My, Lj, Ll, Lm, Ln, Lp, Lr, Ls, Lt, Lu, Lv, Mz, Na, i64s_len]
  have hloop := loop16 (E := E) t f p l hl (.rows false 4 [.agg [.int .u32 0, .int .u32 0, .int .u32 0, .int .u32 0]]) l.length 0 [] (by omega) (by simp) (by omega)
  simp only [Int.cast_ofNat_Int, List.drop_zero, List.nil_append] at hloop
  rw [show growS [] (u32s []) = .list true true [] from rfl, show growH [] 1 (u32s []) = [] from rfl] at hloop
  rw [hloop]
  have hw := fun hp' => d_words12 h26 h13 h12 t (u32s (l.flatMap numW)).isEmpty (u32s (l.flatMap numW)).isEmpty (l.flatMap numW) (by rw [numW_len]; omega) hp'
  have hcall : deepE E (Call E) 12 [.int .u32 t, growS [] (u32s (l.flatMap numW))] (growH [] 1 (u32s (l.flatMap numW))) = some (words t (l.flatMap numW)).s := by
    rw [← hw [], deep_code h12 rfl, deep_code h12 rfl, deep_go, deep_go]
    simp only [mapO_nil, mapO_cons, consO_some, snapA_int, snapA_list, snapA_grow (u32s_atom _)]
  simp only [Aa, Ab, Ac, Ad, Ae, Af, Ag, Ah, Ai, Aj, Ak, Al, Am, Ao, Ap, Aq, Ar, Au, Av, Aw, Ay, Az, Ba, Bb, Bc, Bd, Be, Bf, Bg, Bh, Bi, Bj, Bk, Bl, Bm, Bn, Bo, Bp, Bq, Br, Bs, Bt, Bv, Bw, Bx, Bz, Ca, Cb, Cc, Cd, Ce, Cf, Cg, Ch, Ci, Cj, Ck, Cl, Cm, Cn, Co, Cp, Cq, Cr, Cs, Ct, Cu, Cv, Cw, Cy, Cz, Da, Option.map_some, Db, Dc, De, Df, Dg, Dh, Di, Dj, Dk, Dl, Dm, Dn, Dp, Dq, Dr, Dt, Du, Dv, Dw, Dx, Dy, Dz, Ea, Eb, Ec, Ed, Ee, Ef, Eg, Eh, Ei, Ej, Ek, El, Em, Eo, Ep, Er, Es, Et, Eu, Ev, Ew, Ey, Ez, Fa, Fb, Fc, Fe, Ff, Fg, Fh, Fj, Fl, Fm, Fp, Fq, Fs, Ft, Fu, Fv, Fw, Fx, Nat.reduceEqDiff, Nat.reduceAdd, Nat.reduceMul, Nat.reduceLT, Nat.reduceLeDiff, ↓reduceIte, Lw, Lx, Nat.reduceBEq, Ly, Ma, Mb, Mc, reduceCtorEq, Md, Me, Fy, Fz, Ga, Gb, Gc, Gd, Ge, Gf, Gg, Gh, Gi, Gj, Gk, Gl, Gm, Gn, Gp, Gq, Gr, Gs, Gt, Gu, Gv, Gw, Gx, Gy, Gz, Ha, Hb, Hc, Hd, He, Hf, Hg, Hh, Hj, Hk, Hl, Hm, Hn, Ho, Hq, Hr, Hs, Ht, Hu, Hv, Hw, Hy, Hz, Ia, Ib, Ic, Ie, Ig, Ih, Ii, Ij, Ik, Il, Im, Io, Ip, Iq, Ir, Iu, Iv, Iw, Iy, Iz, Ja, Jb, Jc, Jd, Je, Jf, Jg, Jh, Ji, Jj, Jk, Jl, Jm, Jn, Jo, Jp, Jq, Jr, Js, Jt, Ju, Jv, Jw, Jy, Jz, Ka, Kb, Kc, Ke, Kf, Kg, Kh, Ki, Kj, Kk, Kl, Km, Kn, Ko, Kq, Kr, Ks, Kt, Ku, Kv, Kw, Kx, Ky, Kz, and_self, true_and, and_true, Mf, Mg, Mh, Mi, Mj, Mk, Ml, Mm, Mn, Mo, Mp, Mq, Mr, Ms, Int.reduceToNat, Int.reduceLT, Int.reduceEq, Int.reduceLE, List.getElem?_cons_zero, List.getElem?_cons_succ, La, Lb, Lc, Mt, Mu, Mv, Mw, gt_iff_lt, ge_iff_le, Ld, Le, Lf, Lg, Lh, Li, Mx, My, Lj, Ll, Lm, Ln, Lp, Lr, Ls, Lt, Lu, Lv, Mz, Na, op_call_deep _ _ h12 rfl, hcall, Q.s]


theorem loop18 {E : Env} (t : Int) (s : List UInt8) (hl : s.length ≤ 1000) (b4 : Blk) : ∀ (n k : Nat) (ws : List Int) (m : Nat), s.length ≤ k + n → ws.length = m → s.length ≤ 4 * m →
    blockR 0 [0, 1, 4, 5] (loopR E [0, 1, 4, 5, 6] l18_0 ⟨[(0, .int .u32 t), (1, .str s), (4, .loc 4 0), (5, .own 0 m 0 m), (6, .int .i64 k)], [(4, b4)], [.rows false 1 (u32s ws)]⟩) =
      some (.norm, ⟨[(0, .int .u32 t), (1, .str s), (4, .loc 4 0), (5, .own 0 m 0 m)], [(4, b4)], [.rows false 1 (u32s (bw (s.drop k) k ws))]⟩) := by
  intro n
  induction n with
  | zero =>
    intro k ws m hk hm hs
    have h1 : ¬ (k : Int) < (s.length : Int) := by omega
    rw [loopR]
    conv => lhs; arg 3; arg 1; rw [l18_0]
    simp only [Aa, Ab, Ac, Ad, Ae, Af, Ag, Ah, Ai, Aj, Ak, Al, Am, Ao, Ap, Aq, Ar, Au, Av, Aw, Ay, Az, Ba, Bb, Bc, Bd, Be, Bf, Bg, Bh, Bi, Bj, Bk, Bl, Bm, Bn, Bo, Bp, Bq, Br, Bs, Bt, Bv, Bw, Bx, Bz, Ca, Cb, Cc, Cd, Ce, Cf, Cg, Ch, Ci, Cj, Ck, Cl, Cm, Cn, Co, Cp, Cq, Cr, Cs, Ct, Cu, Cv, Cw, Cy, Cz, Da, Option.map_some, Db, Dc, De, Df, Dg, Dh, Di, Dj, Dk, Dl, Dm, Dn, Dp, Dq, Dr, Dt, Du, Dv, Dw, Dx, Dy, Dz, Ea, Eb, Ec, Ed, Ee, Ef, Eg, Eh, Ei, Ej, Ek, El, Em, Eo, Ep, Er, Es, Et, Eu, Ev, Ew, Ey, Ez, Fa, Fb, Fc, Fe, Ff, Fg, Fh, Fj, Fl, Fm, Fp, Fq, Fs, Ft, Fu, Fv, Fw, Fx, Nat.reduceEqDiff, Nat.reduceAdd, Nat.reduceMul, Nat.reduceLT, Nat.reduceLeDiff, ↓reduceIte, Lw, Lx, Nat.reduceBEq, Ly, Ma, Mb, Mc, reduceCtorEq, Md, Me, Fy, Fz, Ga, Gb, Gc, Gd, Ge, Gf, Gg, Gh, Gi, Gj, Gk, Gl, Gm, Gn, Gp, Gq, Gr, Gs, Gt, Gu, Gv, Gw, Gx, Gy, Gz, Ha, Hb, Hc, Hd, He, Hf, Hg, Hh, Hj, Hk, Hl, Hm, Hn, Ho, Hq, Hr, Hs, Ht, Hu, Hv, Hw, Hy, Hz, Ia, Ib, Ic, Ie, Ig, Ih, Ii, Ij, Ik, Il, Im, Io, Ip, Iq, Ir, Iu, Iv, Iw, Iy, Iz, Ja, Jb, Jc, Jd, Je, Jf, Jg, Jh, Ji, Jj, Jk, Jl, Jm, Jn, Jo, Jp, Jq, Jr, Js, Jt, Ju, Jv, Jw, Jy, Jz, Ka, Kb, Kc, Ke, Kf, Kg, Kh, Ki, Kj, Kk, Kl, Km, Kn, Ko, Kq, Kr, Ks, Kt, Ku, Kv, Kw, Kx, Ky, Kz, and_self, true_and, and_true, Mf, Mg, Mh, Mi, Mj, Mk, Ml, Mm, Mn, Mo, Mp, Mq, Mr, Ms, Int.reduceToNat, Int.reduceLT, Int.reduceEq, Int.reduceLE, List.getElem?_cons_zero, List.getElem?_cons_succ, La, Lb, Lc, Mt, Mu, Mv, Mw, gt_iff_lt, ge_iff_le, Ld, Le, Lf, Lg, Lh, Li, Mx, My, Lj, Ll, Lm, Ln, Lp, Lr, Ls, Lt, Lu, Lv, Mz, Na, h1, decide_false]
    rw [List.drop_eq_nil_of_le (by omega)]
    rfl
  | succ n ih =>
    intro k ws m hk hm hs
    by_cases h : k < s.length
    · have h1 : (k : Int) < (s.length : Int) := by omega
      have hx : s[k]? = some s[k] := List.getElem?_eq_getElem h
      have hj : k / 4 < ws.length := by omega
      have hy := u32s_get (List.getElem?_eq_getElem hj)
      have hgd : ws.getD (k / 4) 0 = ws[k / 4] := by simp [List.getD, hj]
      have hw1 : IntKind.i64.wrap ((k : Int) + 1) = ((k + 1 : Nat) : Int) := wrap_i64 (by omega) (by omega)
      have hq : IntKind.i64.wrap ((k : Int).tdiv 4) = ((k / 4 : Nat) : Int) := by
        rw [show (k : Int).tdiv 4 = ((k / 4 : Nat) : Int) from rfl]
        exact wrap_i64 (by omega) (by omega)
      have hr : (k : Int).tmod 4 = ((k % 4 : Nat) : Int) := rfl
      have h8 : IntKind.i64.wrap (8 * ((k % 4 : Nat) : Int)) = ((8 * (k % 4) : Nat) : Int) := by
        rw [show 8 * ((k % 4 : Nat) : Int) = ((8 * (k % 4) : Nat) : Int) by simp]
        exact wrap_i64 (by omega) (by omega)
      have h8u : IntKind.u64.wrap ((8 * (k % 4) : Nat) : Int) = ((8 * (k % 4) : Nat) : Int) := wrap_u64 (by omega) (by omega)
      have h9 : ¬ ((8 * (k % 4) : Nat) : Int) < 0 := by omega
      have hlt : ((k / 4 : Nat) : Int) < (m : Int) := by omega
      have ih' := ih (k + 1) (ws.set (k / 4) (ibit .or .u32 ws[k / 4] (ishl .u32 (IntKind.u32.wrap s[k].toNat) (8 * (k % 4))))) m (by omega) (by simpa using hm) hs
      rw [loopR]
      conv => lhs; arg 3; arg 1; rw [l18_0]
      rw [List.drop_eq_getElem_cons h, bw, hgd]
      simp only [Aa, Ab, Ac, Ad, Ae, Af, Ag, Ah, Ai, Aj, Ak, Al, Am, Ao, Ap, Aq, Ar, Au, Av, Aw, Ay, Az, Ba, Bb, Bc, Bd, Be, Bf, Bg, Bh, Bi, Bj, Bk, Bl, Bm, Bn, Bo, Bp, Bq, Br, Bs, Bt, Bv, Bw, Bx, Bz, Ca, Cb, Cc, Cd, Ce, Cf, Cg, Ch, Ci, Cj, Ck, Cl, Cm, Cn, Co, Cp, Cq, Cr, Cs, Ct, Cu, Cv, Cw, Cy, Cz, Da, Option.map_some, Db, Dc, De, Df, Dg, Dh, Di, Dj, Dk, Dl, Dm, Dn, Dp, Dq, Dr, Dt, Du, Dv, Dw, Dx, Dy, Dz, Ea, Eb, Ec, Ed, Ee, Ef, Eg, Eh, Ei, Ej, Ek, El, Em, Eo, Ep, Er, Es, Et, Eu, Ev, Ew, Ey, Ez, Fa, Fb, Fc, Fe, Ff, Fg, Fh, Fj, Fl, Fm, Fp, Fq, Fs, Ft, Fu, Fv, Fw, Fx, Nat.reduceEqDiff, Nat.reduceAdd, Nat.reduceMul, Nat.reduceLT, Nat.reduceLeDiff, ↓reduceIte, Lw, Lx, Nat.reduceBEq, Ly, Ma, Mb, Mc, reduceCtorEq, Md, Me, Fy, Fz, Ga, Gb, Gc, Gd, Ge, Gf, Gg, Gh, Gi, Gj, Gk, Gl, Gm, Gn, Gp, Gq, Gr, Gs, Gt, Gu, Gv, Gw, Gx, Gy, Gz, Ha, Hb, Hc, Hd, He, Hf, Hg, Hh, Hj, Hk, Hl, Hm, Hn, Ho, Hq, Hr, Hs, Ht, Hu, Hv, Hw, Hy, Hz, Ia, Ib, Ic, Ie, Ig, Ih, Ii, Ij, Ik, Il, Im, Io, Ip, Iq, Ir, Iu, Iv, Iw, Iy, Iz, Ja, Jb, Jc, Jd, Je, Jf, Jg, Jh, Ji, Jj, Jk, Jl, Jm, Jn, Jo, Jp, Jq, Jr, Js, Jt, Ju, Jv, Jw, Jy, Jz, Ka, Kb, Kc, Ke, Kf, Kg, Kh, Ki, Kj, Kk, Kl, Km, Kn, Ko, Kq, Kr, Ks, Kt, Ku, Kv, Kw, Kx, Ky, Kz, and_self, true_and, and_true, Mf, Mg, Mh, Mi, Mj, Mk, Ml, Mm, Mn, Mo, Mp, Mq, Mr, Ms, Int.reduceToNat, Int.reduceLT, Int.reduceEq, Int.reduceLE, List.getElem?_cons_zero, List.getElem?_cons_succ, La, Lb, Lc, Mt, Mu, Mv, Mw, gt_iff_lt, ge_iff_le, Ld, Le, Lf, Lg, Lh, Li, Mx, My, Lj, Ll, Lm, Ln, Lp, Lr, Ls, Lt, Lu, Lv, Mz, Na, h1, decide_true, rd18_0, d18_0, binS_quo, binS_rem, hx, hy, hq, hr, h8, h8u, h9, hlt, hw1, u32s_len, hm, u32s_set]
      exact ih'
    · have h1 : ¬ (k : Int) < (s.length : Int) := by omega
      rw [loopR]
      conv => lhs; arg 3; arg 1; rw [l18_0]
      simp only [Aa, Ab, Ac, Ad, Ae, Af, Ag, Ah, Ai, Aj, Ak, Al, Am, Ao, Ap, Aq, Ar, Au, Av, Aw, Ay, Az, Ba, Bb, Bc, Bd, Be, Bf, Bg, Bh, Bi, Bj, Bk, Bl, Bm, Bn, Bo, Bp, Bq, Br, Bs, Bt, Bv, Bw, Bx, Bz, Ca, Cb, Cc, Cd, Ce, Cf, Cg, Ch, Ci, Cj, Ck, Cl, Cm, Cn, Co, Cp, Cq, Cr, Cs, Ct, Cu, Cv, Cw, Cy, Cz, Da, Option.map_some, Db, Dc, De, Df, Dg, Dh, Di, Dj, Dk, Dl, Dm, Dn, Dp, Dq, Dr, Dt, Du, Dv, Dw, Dx, Dy, Dz, Ea, Eb, Ec, Ed, Ee, Ef, Eg, Eh, Ei, Ej, Ek, El, Em, Eo, Ep, Er, Es, Et, Eu, Ev, Ew, Ey, Ez, Fa, Fb, Fc, Fe, Ff, Fg, Fh, Fj, Fl, Fm, Fp, Fq, Fs, Ft, Fu, Fv, Fw, Fx, Nat.reduceEqDiff, Nat.reduceAdd, Nat.reduceMul, Nat.reduceLT, Nat.reduceLeDiff, ↓reduceIte, Lw, Lx, Nat.reduceBEq, Ly, Ma, Mb, Mc, reduceCtorEq, Md, Me, Fy, Fz, Ga, Gb, Gc, Gd, Ge, Gf, Gg, Gh, Gi, Gj, Gk, Gl, Gm, Gn, Gp, Gq, Gr, Gs, Gt, Gu, Gv, Gw, Gx, Gy, Gz, Ha, Hb, Hc, Hd, He, Hf, Hg, Hh, Hj, Hk, Hl, Hm, Hn, Ho, Hq, Hr, Hs, Ht, Hu, Hv, Hw, Hy, Hz, Ia, Ib, Ic, Ie, Ig, Ih, Ii, Ij, Ik, Il, Im, Io, Ip, Iq, Ir, Iu, Iv, Iw, Iy, Iz, Ja, Jb, Jc, Jd, Je, Jf, Jg, Jh, Ji, Jj, Jk, Jl, Jm, Jn, Jo, Jp, Jq, Jr, Js, Jt, Ju, Jv, Jw, Jy, Jz, Ka, Kb, Kc, Ke, Kf, Kg, Kh, Ki, Kj, Kk, Kl, Km, Kn, Ko, Kq, Kr, Ks, Kt, Ku, Kv, Kw, Kx, Ky, Kz, and_self, true_and, and_true, Mf, Mg, Mh, Mi, Mj, Mk, Ml, Mm, Mn, Mo, Mp, Mq, Mr, Ms, Int.reduceToNat, Int.reduceLT, Int.reduceEq, Int.reduceLE, List.getElem?_cons_zero, List.getElem?_cons_succ, La, Lb, Lc, Mt, Mu, Mv, Mw, gt_iff_lt, ge_iff_le, Ld, Le, Lf, Lg, Lh, Li, Mx, My, Lj, Ll, Lm, Ln, Lp, Lr, Ls, Lt, Lu, Lv, Mz, Na, h1, decide_false]
      rw [List.drop_eq_nil_of_le (by omega)]
      rfl


theorem d_bytes18 {E : Env} (h26 : E 26 = some (.code c26)) (h13 : E 13 = some (.code c13)) (h12 : E 12 = some (.code c12)) (h18 : E 18 = some (.code c18)) (t : Int) (s : List UInt8) (hl : s.length ≤ 1000) (hp : Hp) :
    deepE E (Call E) 18 [.int .u32 t, .str s] hp = some (words t (textW s)).s := by
  rw [deep_code h18 rfl, deep_go]
  simp only [mapO_nil, mapO_cons, consO_some, snapA_int, snapA_str, goD_some]
  rw [Call_mk E h18 _ _ rfl]
  have hw1 : IntKind.i64.wrap ((s.length : Int) + 3) = ((s.length + 3 : Nat) : Int) := wrap_i64 (by omega) (by omega)
  have hq : IntKind.i64.wrap (((s.length + 3 : Nat) : Int).tdiv 4) = (((s.length + 3) / 4 : Nat) : Int) := by
    rw [show ((s.length + 3 : Nat) : Int).tdiv 4 = (((s.length + 3) / 4 : Nat) : Int) from rfl]
    exact wrap_i64 (by omega) (by omega)
  have hm1 : ((((s.length + 3) / 4 : Nat) : Int)) * 4 ≤ 140737488351232 := by omega
  have hm2 : ((((s.length + 3) / 4 : Nat) : Int)) ≤ 4611686018427387904 := by omega
  simp only [Aa, Ab, Ac, Ad, Ae, Af, Ag, Ah, Ai, Aj, Ak, Al, Am, Ao, Ap, Aq, Ar, Au, Av, Aw, Ay, Az, Ba, Bb, Bc, Bd, Be, Bf, Bg, Bh, Bi, Bj, Bk, Bl, Bm, Bn, Bo, Bp, Bq, Br, Bs, Bt, Bv, Bw, Bx, Bz, Ca, Cb, Cc, Cd, Ce, Cf, Cg, Ch, Ci, Cj, Ck, Cl, Cm, Cn, Co, Cp, Cq, Cr, Cs, Ct, Cu, Cv, Cw, Cy, Cz, Da, Option.map_some, Db, Dc, De, Df, Dg, Dh, Di, Dj, Dk, Dl, Dm, Dn, Dp, Dq, Dr, Dt, Du, Dv, Dw, Dx, Dy, Dz, Ea, Eb, Ec, Ed, Ee, Ef, Eg, Eh, Ei, Ej, Ek, El, Em, Eo, Ep, Er, Es, Et, Eu, Ev, Ew, Ey, Ez, Fa, Fb, Fc, Fe, Ff, Fg, Fh, Fj, Fl, Fm, Fp, Fq, Fs, Ft, Fu, Fv, Fw, Fx, Nat.reduceEqDiff, Nat.reduceAdd, Nat.reduceMul, Nat.reduceLT, Nat.reduceLeDiff, ↓reduceIte, Lw, Lx, Nat.reduceBEq, Ly, Ma, Mb, Mc, reduceCtorEq, Md, Me, Fy, Fz, Ga, Gb, Gc, Gd, Ge, Gf, Gg, Gh, Gi, Gj, Gk, Gl, Gm, Gn, Gp, Gq, Gr, Gs, Gt, Gu, Gv, Gw, Gx, Gy, Gz, Ha, Hb, Hc, Hd, He, Hf, Hg, Hh, Hj, Hk, Hl, Hm, Hn, Ho, Hq, Hr, Hs, Ht, Hu, Hv, Hw, Hy, Hz, Ia, Ib, Ic, Ie, Ig, Ih, Ii, Ij, Ik, Il, Im, Io, Ip, Iq, Ir, Iu, Iv, Iw, Iy, Iz, Ja, Jb, Jc, Jd, Je, Jf, Jg, Jh, Ji, Jj, Jk, Jl, Jm, Jn, Jo, Jp, Jq, Jr, Js, Jt, Ju, Jv, Jw, Jy, Jz, Ka, Kb, Kc, Ke, Kf, Kg, Kh, Ki, Kj, Kk, Kl, Km, Kn, Ko, Kq, Kr, Ks, Kt, Ku, Kv, Kw, Kx, Ky, Kz, and_self, true_and, and_true, Mf, Mg, Mh, Mi, Mj, Mk, Ml, Mm, Mn, Mo, Mp, Mq, Mr, Ms, Int.reduceToNat, Int.reduceLT, Int.reduceEq, Int.reduceLE, List.getElem?_cons_zero, List.getElem?_cons_succ, La, Lb, Lc, Mt, Mu, Mv, Mw, gt_iff_lt, ge_iff_le, Ld, Le, Lf, Lg, Lh, Li, Mx, My, Lj, Ll, Lm, Ln, Lp, Lr, Ls, Lt, Lu, Lv, Mz, Na, hw1, binS_quo, hq, mkslR_int, hm1, hm2, u32s_rep, List.nil_append]
  have hloop := loop18 (E := E) t s hl (.rows false 4 [.agg [.int .u32 0, .int .u32 0, .int .u32 0, .int .u32 0]]) s.length 0 (List.replicate ((s.length + 3) / 4) 0) ((s.length + 3) / 4) (by omega) (by simp) (by omega)
  simp only [Int.cast_ofNat_Int, List.drop_zero] at hloop
  rw [hloop]
  have hlen : (bw s 0 (List.replicate ((s.length + 3) / 4) 0)).length = (s.length + 3) / 4 := by rw [bw_len]; simp
  have hap := fun (d : Nat) (os : List KO) (fr : Fr) (vars : Vars) => app_exact (E := E) (C := Call E) (d := d) (os := os) (fr := fr) (vars := vars) (H := [.rows false 1 (u32s (bw s 0 (List.replicate ((s.length + 3) / 4) 0)))]) (l := 0) (n := (s.length + 3) / 4) (esz := 1) (bytes := 4)
    (xs := u32s (bw s 0 (List.replicate ((s.length + 3) / 4) 0))) (f := true) (p := true) (ys := [.int .u32 (IntKind.u32.wrap s.length)]) rfl (by rw [u32s_len, hlen]) rfl (by simp [u32s_len, hlen, okLen]; omega) (by simp)
  have htw : u32s (bw s 0 (List.replicate ((s.length + 3) / 4) 0)) ++ [.int .u32 (IntKind.u32.wrap s.length)] = u32s (textW s) := by rw [textW, u32s_app]; rfl
  have htl : (textW s).length = (s.length + 3) / 4 + 1 := by simp [textW, hlen]
  simp only [htw, u32s_len, hlen, List.length_cons, List.length_nil, Nat.zero_add, List.cons_append, List.nil_append] at hap
  have hcall : deepE E (Call E) 12 [.int .u32 t, .own 1 ((s.length + 3) / 4 + 1) 0 ((s.length + 3) / 4 + 1)] [.rows false 1 (u32s (bw s 0 (List.replicate ((s.length + 3) / 4) 0))), .rows true 1 (u32s (textW s))] = some (words t (textW s)).s := by
    rw [← d_words12 h26 h13 h12 t false false (textW s) (by omega) [], deep_code h12 rfl, deep_code h12 rfl, deep_go, deep_go]
    rw [mapO_cons, mapO_cons, snapA_last (l := 1) (xs := u32s (textW s)) rfl (by rw [u32s_len, htl]) (u32s_atom _)]
    simp only [mapO_nil, mapO_cons, consO_some, snapA_int, snapA_list]
  simp only [Aa, Ab, Ac, Ad, Ae, Af, Ag, Ah, Ai, Aj, Ak, Al, Am, Ao, Ap, Aq, Ar, Au, Av, Aw, Ay, Az, Ba, Bb, Bc, Bd, Be, Bf, Bg, Bh, Bi, Bj, Bk, Bl, Bm, Bn, Bo, Bp, Bq, Br, Bs, Bt, Bv, Bw, Bx, Bz, Ca, Cb, Cc, Cd, Ce, Cf, Cg, Ch, Ci, Cj, Ck, Cl, Cm, Cn, Co, Cp, Cq, Cr, Cs, Ct, Cu, Cv, Cw, Cy, Cz, Da, Option.map_some, Db, Dc, De, Df, Dg, Dh, Di, Dj, Dk, Dl, Dm, Dn, Dp, Dq, Dr, Dt, Du, Dv, Dw, Dx, Dy, Dz, Ea, Eb, Ec, Ed, Ee, Ef, Eg, Eh, Ei, Ej, Ek, El, Em, Eo, Ep, Er, Es, Et, Eu, Ev, Ew, Ey, Ez, Fa, Fb, Fc, Fe, Ff, Fg, Fh, Fj, Fl, Fm, Fp, Fq, Fs, Ft, Fu, Fv, Fw, Fx, Nat.reduceEqDiff, Nat.reduceAdd, Nat.reduceMul, Nat.reduceLT, Nat.reduceLeDiff, ↓reduceIte, Lw, Lx, Nat.reduceBEq, Ly, Ma, Mb, Mc, reduceCtorEq, Md, Me, Fy, Fz, Ga, Gb, Gc, Gd, Ge, Gf, Gg, Gh, Gi, Gj, Gk, Gl, Gm, Gn, Gp, Gq, Gr, Gs, Gt, Gu, Gv, Gw, Gx, Gy, Gz, Ha, Hb, Hc, Hd, He, Hf, Hg, Hh, Hj, Hk, Hl, Hm, Hn, Ho, Hq, Hr, Hs, Ht, Hu, Hv, Hw, Hy, Hz, Ia, Ib, Ic, Ie, Ig, Ih, Ii, Ij, Ik, Il, Im, Io, Ip, Iq, Ir, Iu, Iv, Iw, Iy, Iz, Ja, Jb, Jc, Jd, Je, Jf, Jg, Jh, Ji, Jj, Jk, Jl, Jm, Jn, Jo, Jp, Jq, Jr, Js, Jt, Ju, Jv, Jw, Jy, Jz, Ka, Kb, Kc, Ke, Kf, Kg, Kh, Ki, Kj, Kk, Kl, Km, Kn, Ko, Kq, Kr, Ks, Kt, Ku, Kv, Kw, Kx, Ky, Kz, and_self, true_and, and_true, Mf, Mg, Mh, Mi, Mj, Mk, Ml, Mm, Mn, Mo, Mp, Mq, Mr, Ms, Int.reduceToNat, Int.reduceLT, Int.reduceEq, Int.reduceLE, List.getElem?_cons_zero, List.getElem?_cons_succ, La, Lb, Lc, Mt, Mu, Mv, Mw, gt_iff_lt, ge_iff_le, Ld, Le, Lf, Lg, Lh, Li, Mx, My, Lj, Ll, Lm, Ln, Lp, Lr, Ls, Lt, Lu, Lv, Mz, Na, hap, op_call_deep _ _ h12 rfl, hcall, Q.s]



/-! Regions of open order, step by step. -/
theorem runD_step {E : Env} {call : CallF} {slot slot' : Nat} {o : KO} {os : List KO} {st st' : St} {l : List En} {v : S} {rd : List L} {wr : List (L × Blk)}
    (hg : o.guard = none) (he : evalK (deepE E call) slot st o.op = some (v, rd, wr)) (hs : (if o.op.allocs then slot + 1 else slot) = slot')
    (hc : wr.all (fun w => inHp st.hp.length w.1) = true ∧ (o.op.allocs = false ∨ isDead (st.hp[slot]?) = true) ∧ o.op.fvar = none)
    (hr : runD E call slot' os ((st.wrs wr).put o.dst v) = some (st', l)) :
    runD E call slot (o :: os) st = some (st', ⟨o, v, if o.op.allocs then .h slot :: rd else rd, wr⟩ :: l) := by
  rw [runD, hg]
  simp only [wantK, he, if_pos hc, hs, hr]
theorem regionD_of {E : Env} {ops : List KO} {st st2 : St} {r : Option (St × List En)} {st' : St} {l : List En} (h : runD E (Call E) st.hp.length ops { st with hp := st.hp ++ deads ops } = r) (hr : r = some (st', l)) (ho : orderOk (ancs ops []) 0 [] l = true) (ha : aftersOk 0 ops = true) (he : { st' with hp := trim st'.hp } = st2) :
    Run E (.dregion ops) st = some (.norm, st2) := by
  subst he hr
  rw [Run_dregion, regionD, h]
  simp only [ho, ha, and_self, if_true, Option.map_some]

/-! Pairs. -/
theorem join_own {E : Env} (a b c d e f g h : Int) (w : Int) {i : Nat} (hi : ∀ (l : List Int) (fl pr : Bool) (hp : Hp), l.length ≤ 140737488351232 → deepE E (Call E) i [.int .u32 w, .list fl pr (u32s l)] hp = some (words w l).s) {cc : CFun} (hE : E i = some (.code cc)) (hd : cc.deep = true) (H : Hp) (l : Nat) (fz : Bool)
    (hb : H[l]? = some (.rows fz 1 (u32s [a, b, c, d, e, f, g, h]))) : deepE E (Call E) i [.int .u32 w, .own l 8 0 8] H = some (words w [a, b, c, d, e, f, g, h]).s := by
  rw [← hi [a, b, c, d, e, f, g, h] false false H (by simp), deep_code hE hd, deep_code hE hd, deep_go, deep_go]
  rw [mapO_cons, mapO_cons, snapA_last hb (by simp [u32s]) (u32s_atom _)]
  simp only [mapO_nil, mapO_cons, consO_some, snapA_int, snapA_list]

theorem u32s8 (a b c d e f g h : Int) : u32s [a, b, c, d, e, f, g, h] = [.int .u32 a, .int .u32 b, .int .u32 c, .int .u32 d, .int .u32 e, .int .u32 f, .int .u32 g, .int .u32 h] := rfl

theorem app8 (a b c d e f g h : Int) : ∀ vars, appV vars [.rows false 1 [.int .u32 a, .int .u32 b, .int .u32 c, .int .u32 d], .rows false 1 [.int .u32 e, .int .u32 f, .int .u32 g, .int .u32 h]] 1 4 (.own 0 4 0 4) (.own 1 4 0 4) =
    some (.own 2 8 0 8, [.h 0, .h 1], [(.h 2, .rows true 1 [.int .u32 a, .int .u32 b, .int .u32 c, .int .u32 d, .int .u32 e, .int .u32 f, .int .u32 g, .int .u32 h])]) := by
  intro vars
  simp [appV, elemsR, appendR, eszAll, S.cells, okLen]

theorem d_join19 {E : Env} (h25 : E 25 = some (.code c25)) (h9 : E 9 = some (.code c9)) (h14 : E 14 = some (.code c14)) (h19 : E 19 = some (.code c19)) (a b c d e f g h : Int) (hp : Hp) :
    deepE E (Call E) 19 [.agg [.int .u32 a, .int .u32 b, .int .u32 c, .int .u32 d], .agg [.int .u32 e, .int .u32 f, .int .u32 g, .int .u32 h]] hp = some (words 1 [a, b, c, d, e, f, g, h]).s := by
  rw [deep_code h19 rfl, deep_go]
  simp only [mapO_nil, mapO_cons, consO_some, snapA_agg, snapC_int, aggO_some, goD_some]
  rw [Call_mk E h19 _ _ rfl]
  have hw := fun (H : Hp) l fz hb => join_own (E := E) a b c d e f g h 1 (i := 14) (fun l fl pr hp hl => d_words14 h25 h9 h14 1 fl pr l hl hp) h14 rfl H l fz hb
  have hap := app8 a b c d e f g h
  simp only [u32s8] at hw
  have hcall := hw [.rows false 1 [.int .u32 a, .int .u32 b, .int .u32 c, .int .u32 d], .rows false 1 [.int .u32 e, .int .u32 f, .int .u32 g, .int .u32 h], .rows true 1 [.int .u32 a, .int .u32 b, .int .u32 c, .int .u32 d, .int .u32 e, .int .u32 f, .int .u32 g, .int .u32 h]] 2 true rfl
  simp only [Aa, Ab, Ac, Ad, Ae, Af, Ag, Ah, Ai, Aj, Ak, Al, Am, Ao, Ap, Aq, Ar, Au, Av, Aw, Ay, Az, Ba, Bb, Bc, Bd, Be, Bf, Bg, Bh, Bi, Bj, Bk, Bl, Bm, Bn, Bo, Bp, Bq, Br, Bs, Bt, Bv, Bw, Bx, Bz, Ca, Cb, Cc, Cd, Ce, Cf, Cg, Ch, Ci, Cj, Ck, Cl, Cm, Cn, Co, Cp, Cq, Cr, Cs, Ct, Cu, Cv, Cw, Cy, Cz, Da, Option.map_some, Db, Dc, De, Df, Dg, Dh, Di, Dj, Dk, Dl, Dm, Dn, Dp, Dq, Dr, Dt, Du, Dv, Dw, Dx, Dy, Dz, Ea, Eb, Ec, Ed, Ee, Ef, Eg, Eh, Ei, Ej, Ek, El, Em, Eo, Ep, Er, Es, Et, Eu, Ev, Ew, Ey, Ez, Fa, Fb, Fc, Fe, Ff, Fg, Fh, Fj, Fl, Fm, Fp, Fq, Fs, Ft, Fu, Fv, Fw, Fx, Nat.reduceEqDiff, Nat.reduceAdd, Nat.reduceMul, Nat.reduceLT, Nat.reduceLeDiff, ↓reduceIte, Lw, Lx, Nat.reduceBEq, Ly, Ma, Mb, Mc, reduceCtorEq, Md, Me, Fy, Fz, Ga, Gb, Gc, Gd, Ge, Gf, Gg, Gh, Gi, Gj, Gk, Gl, Gm, Gn, Gp, Gq, Gr, Gs, Gt, Gu, Gv, Gw, Gx, Gy, Gz, Ha, Hb, Hc, Hd, He, Hf, Hg, Hh, Hj, Hk, Hl, Hm, Hn, Ho, Hq, Hr, Hs, Ht, Hu, Hv, Hw, Hy, Hz, Ia, Ib, Ic, Ie, Ig, Ih, Ii, Ij, Ik, Il, Im, Io, Ip, Iq, Ir, Iu, Iv, Iw, Iy, Iz, Ja, Jb, Jc, Jd, Je, Jf, Jg, Jh, Ji, Jj, Jk, Jl, Jm, Jn, Jo, Jp, Jq, Jr, Js, Jt, Ju, Jv, Jw, Jy, Jz, Ka, Kb, Kc, Ke, Kf, Kg, Kh, Ki, Kj, Kk, Kl, Km, Kn, Ko, Kq, Kr, Ks, Kt, Ku, Kv, Kw, Kx, Ky, Kz, and_self, true_and, and_true, Mf, Mg, Mh, Mi, Mj, Mk, Ml, Mm, Mn, Mo, Mp, Mq, Mr, Ms, Int.reduceToNat, Int.reduceLT, Int.reduceEq, Int.reduceLE, List.getElem?_cons_zero, List.getElem?_cons_succ, La, Lb, Lc, Mt, Mu, Mv, Mw, gt_iff_lt, ge_iff_le, Ld, Le, Lf, Lg, Lh, Li, Mx, My, Lj, Ll, Lm, Ln, Lp, Lr, Ls, Lt, Lu, Lv, Mz, Na, rd19_0 E (deepB_code h14 rfl), d19_0, chunks_succ, chunks_zero, List.cons_append, List.nil_append, asliceV, bnd, Nat.sub_zero, hap, op_call_deep _ _ h14 rfl, hcall, Q.s]

theorem d_join20 {E : Env} (h26 : E 26 = some (.code c26)) (h13 : E 13 = some (.code c13)) (h12 : E 12 = some (.code c12)) (h20 : E 20 = some (.code c20)) (a b c d e f g h : Int) (hp : Hp) :
    deepE E (Call E) 20 [.agg [.int .u32 a, .int .u32 b, .int .u32 c, .int .u32 d], .agg [.int .u32 e, .int .u32 f, .int .u32 g, .int .u32 h]] hp = some (words 1 [a, b, c, d, e, f, g, h]).s := by
  rw [deep_code h20 rfl, deep_go]
  simp only [mapO_nil, mapO_cons, consO_some, snapA_agg, snapC_int, aggO_some, goD_some]
  rw [Call_mk E h20 _ _ rfl]
  have hw := fun (H : Hp) l fz hb => join_own (E := E) a b c d e f g h 1 (i := 12) (fun l fl pr hp hl => d_words12 h26 h13 h12 1 fl pr l hl hp) h12 rfl H l fz hb
  simp only [u32s8] at hw
  have hcall := hw [.rows false 1 [.int .u32 a, .int .u32 b, .int .u32 c, .int .u32 d], .rows false 1 [.int .u32 e, .int .u32 f, .int .u32 g, .int .u32 h], .rows true 1 [.int .u32 a, .int .u32 b, .int .u32 c, .int .u32 d, .int .u32 e, .int .u32 f, .int .u32 g, .int .u32 h], .dead] 2 true rfl
  have hreg : Run E (.dregion d20_0) ⟨[(4, .loc 4 0), (3, .ptr 1 4 0 0), (2, .ptr 0 4 0 0), (0, S.agg [.int .u32 a, .int .u32 b, .int .u32 c, .int .u32 d]), (1, S.agg [.int .u32 e, .int .u32 f, .int .u32 g, .int .u32 h])], [(4, .rows false 4 [.agg [.int .u32 0, .int .u32 0, .int .u32 0, .int .u32 0]])],
      [.rows false 1 [.int .u32 a, .int .u32 b, .int .u32 c, .int .u32 d], .rows false 1 [.int .u32 e, .int .u32 f, .int .u32 g, .int .u32 h]]⟩ =
        some (.norm, ⟨[(9, (words 1 [a, b, c, d, e, f, g, h]).s), (8, .own 2 8 0 8), (7, .own 1 4 0 4), (6, .own 2 4 0 4), (5, .own 0 4 0 4), (4, .loc 4 0), (3, .ptr 1 4 0 0), (2, .ptr 0 4 0 0), (0, S.agg [.int .u32 a, .int .u32 b, .int .u32 c, .int .u32 d]), (1, S.agg [.int .u32 e, .int .u32 f, .int .u32 g, .int .u32 h])],
          [(4, .rows false 4 [(words 1 [a, b, c, d, e, f, g, h]).s])], [.rows false 1 [.int .u32 a, .int .u32 b, .int .u32 c, .int .u32 d], .rows false 1 [.int .u32 e, .int .u32 f, .int .u32 g, .int .u32 h], .rows true 1 [.int .u32 a, .int .u32 b, .int .u32 c, .int .u32 d, .int .u32 e, .int .u32 f, .int .u32 g, .int .u32 h]]⟩) := by
    have hev : ∀ fr vars, getF fr 8 = .own 2 8 0 8 → evalK (deepE E (Call E)) 4 ⟨fr, vars, [.rows false 1 [.int .u32 a, .int .u32 b, .int .u32 c, .int .u32 d], .rows false 1 [.int .u32 e, .int .u32 f, .int .u32 g, .int .u32 h], .rows true 1 [.int .u32 a, .int .u32 b, .int .u32 c, .int .u32 d, .int .u32 e, .int .u32 f, .int .u32 g, .int .u32 h], .dead]⟩ (.call 12 [.c (.int .u32 1), .t 8]) = some ((words 1 [a, b, c, d, e, f, g, h]).s, [.h 2], []) := by
      intro fr vars hg
      simp only [evalK, evs, A.ev, hg, hcall]
      rfl
    refine regionD_of (ops := d20_0) (runD_step (slot' := 2) rfl rfl rfl ⟨rfl, .inl rfl, rfl⟩ (runD_step (slot' := 3) rfl rfl rfl ⟨rfl, .inr rfl, rfl⟩ (runD_step (slot' := 3) rfl rfl rfl ⟨rfl, .inl rfl, rfl⟩ (runD_step (slot' := 4) rfl rfl rfl ⟨rfl, .inr rfl, rfl⟩ (runD_step (slot' := 4) rfl (hev _ _ rfl) rfl ⟨rfl, .inl rfl, rfl⟩ (runD_step (slot' := 4) rfl rfl rfl ⟨rfl, .inl rfl, rfl⟩ rfl)))))) rfl rfl rfl rfl
  simp only [Aa, Ab, Ac, Ad, Ae, Af, Ag, Ah, Ai, Aj, Ak, Al, Am, Ao, Ap, Aq, Ar, Au, Av, Aw, Ay, Az, Ba, Bb, Bc, Bd, Be, Bf, Bg, Bh, Bi, Bj, Bk, Bl, Bm, Bn, Bo, Bp, Bq, Br, Bs, Bt, Bv, Bw, Bx, Bz, Ca, Cb, Cc, Cd, Ce, Cf, Cg, Ch, Ci, Cj, Ck, Cl, Cm, Cn, Co, Cp, Cq, Cr, Cs, Ct, Cu, Cv, Cw, Cy, Cz, Da, Option.map_some, Db, Dc, De, Df, Dg, Dh, Di, Dj, Dk, Dl, Dm, Dn, Dp, Dq, Dr, Dt, Du, Dv, Dw, Dx, Dy, Dz, Ea, Eb, Ec, Ed, Ee, Ef, Eg, Eh, Ei, Ej, Ek, El, Em, Eo, Ep, Er, Es, Et, Eu, Ev, Ew, Ey, Ez, Fa, Fb, Fc, Fe, Ff, Fg, Fh, Fj, Fl, Fm, Fp, Fq, Fs, Ft, Fu, Fv, Fw, Fx, Nat.reduceEqDiff, Nat.reduceAdd, Nat.reduceMul, Nat.reduceLT, Nat.reduceLeDiff, ↓reduceIte, Lw, Lx, Nat.reduceBEq, Ly, Ma, Mb, Mc, reduceCtorEq, Md, Me, Fy, Fz, Ga, Gb, Gc, Gd, Ge, Gf, Gg, Gh, Gi, Gj, Gk, Gl, Gm, Gn, Gp, Gq, Gr, Gs, Gt, Gu, Gv, Gw, Gx, Gy, Gz, Ha, Hb, Hc, Hd, He, Hf, Hg, Hh, Hj, Hk, Hl, Hm, Hn, Ho, Hq, Hr, Hs, Ht, Hu, Hv, Hw, Hy, Hz, Ia, Ib, Ic, Ie, Ig, Ih, Ii, Ij, Ik, Il, Im, Io, Ip, Iq, Ir, Iu, Iv, Iw, Iy, Iz, Ja, Jb, Jc, Jd, Je, Jf, Jg, Jh, Ji, Jj, Jk, Jl, Jm, Jn, Jo, Jp, Jq, Jr, Js, Jt, Ju, Jv, Jw, Jy, Jz, Ka, Kb, Kc, Ke, Kf, Kg, Kh, Ki, Kj, Kk, Kl, Km, Kn, Ko, Kq, Kr, Ks, Kt, Ku, Kv, Kw, Kx, Ky, Kz, and_self, true_and, and_true, Mf, Mg, Mh, Mi, Mj, Mk, Ml, Mm, Mn, Mo, Mp, Mq, Mr, Ms, Int.reduceToNat, Int.reduceLT, Int.reduceEq, Int.reduceLE, List.getElem?_cons_zero, List.getElem?_cons_succ, La, Lb, Lc, Mt, Mu, Mv, Mw, gt_iff_lt, ge_iff_le, Ld, Le, Lf, Lg, Lh, Li, Mx, My, Lj, Ll, Lm, Ln, Lp, Lr, Ls, Lt, Lu, Lv, Mz, Na, chunks_succ, chunks_zero, List.cons_append, List.nil_append]
  rw [hreg]
  simp only [Aa, Ab, Ac, Ad, Ae, Af, Ag, Ah, Ai, Aj, Ak, Al, Am, Ao, Ap, Aq, Ar, Au, Av, Aw, Ay, Az, Ba, Bb, Bc, Bd, Be, Bf, Bg, Bh, Bi, Bj, Bk, Bl, Bm, Bn, Bo, Bp, Bq, Br, Bs, Bt, Bv, Bw, Bx, Bz, Ca, Cb, Cc, Cd, Ce, Cf, Cg, Ch, Ci, Cj, Ck, Cl, Cm, Cn, Co, Cp, Cq, Cr, Cs, Ct, Cu, Cv, Cw, Cy, Cz, Da, Option.map_some, Db, Dc, De, Df, Dg, Dh, Di, Dj, Dk, Dl, Dm, Dn, Dp, Dq, Dr, Dt, Du, Dv, Dw, Dx, Dy, Dz, Ea, Eb, Ec, Ed, Ee, Ef, Eg, Eh, Ei, Ej, Ek, El, Em, Eo, Ep, Er, Es, Et, Eu, Ev, Ew, Ey, Ez, Fa, Fb, Fc, Fe, Ff, Fg, Fh, Fj, Fl, Fm, Fp, Fq, Fs, Ft, Fu, Fv, Fw, Fx, Nat.reduceEqDiff, Nat.reduceAdd, Nat.reduceMul, Nat.reduceLT, Nat.reduceLeDiff, ↓reduceIte, Lw, Lx, Nat.reduceBEq, Ly, Ma, Mb, Mc, reduceCtorEq, Md, Me, Fy, Fz, Ga, Gb, Gc, Gd, Ge, Gf, Gg, Gh, Gi, Gj, Gk, Gl, Gm, Gn, Gp, Gq, Gr, Gs, Gt, Gu, Gv, Gw, Gx, Gy, Gz, Ha, Hb, Hc, Hd, He, Hf, Hg, Hh, Hj, Hk, Hl, Hm, Hn, Ho, Hq, Hr, Hs, Ht, Hu, Hv, Hw, Hy, Hz, Ia, Ib, Ic, Ie, Ig, Ih, Ii, Ij, Ik, Il, Im, Io, Ip, Iq, Ir, Iu, Iv, Iw, Iy, Iz, Ja, Jb, Jc, Jd, Je, Jf, Jg, Jh, Ji, Jj, Jk, Jl, Jm, Jn, Jo, Jp, Jq, Jr, Js, Jt, Ju, Jv, Jw, Jy, Jz, Ka, Kb, Kc, Ke, Kf, Kg, Kh, Ki, Kj, Kk, Kl, Km, Kn, Ko, Kq, Kr, Ks, Kt, Ku, Kv, Kw, Kx, Ky, Kz, and_self, true_and, and_true, Mf, Mg, Mh, Mi, Mj, Mk, Ml, Mm, Mn, Mo, Mp, Mq, Mr, Ms, Int.reduceToNat, Int.reduceLT, Int.reduceEq, Int.reduceLE, List.getElem?_cons_zero, List.getElem?_cons_succ, La, Lb, Lc, Mt, Mu, Mv, Mw, gt_iff_lt, ge_iff_le, Ld, Le, Lf, Lg, Lh, Li, Mx, My, Lj, Ll, Lm, Ln, Lp, Lr, Ls, Lt, Lu, Lv, Mz, Na, Q.s]
end Go.Proofs.Ytepedjncjehmgaa.Sim
namespace Go.Proofs.Ytepedjncjehmgaa.Sim
set_option linter.unusedSimpArgs false
set_option linter.unusedVariables false
open Go
set_option maxRecDepth 100000
set_option linter.unusedSimpArgs false

def u8s (l : List UInt8) : List S := l.map fun b => .int .u8 (b.toNat : Int)
theorem u8s_len (l : List UInt8) : (u8s l).length = l.length := by simp [u8s]
theorem u8s_app (a b : List UInt8) : u8s (a ++ b) = u8s a ++ u8s b := by simp [u8s]
theorem u8s_esz (l : List UInt8) : eszAll 1 (u8s l) = true := by simp [u8s, eszAll, S.cells]
theorem u8s_atom (l : List UInt8) : (u8s l).all S.atomR = true := by simp [u8s, S.atomR, S.atom]

theorem nib_and (x : Int) (hx : okW x = true) (m : Nat) (hm : m < 8) : ibit .and .u32 (ishr .u32 x (4 * m)) 15 = (nibS x m : Int) := by
  simp only [okW, decide_eq_true_eq] at hx
  have h0 : x = (x.toNat : Int) := by omega
  have h1 : ishr .u32 x (4 * m) = ((x.toNat / 16 ^ m : Nat) : Int) := by
    simp only [ishr]
    rw [show min (4 * m) IntKind.u32.bits = 4 * m from Nat.min_eq_left (by show 4 * m ≤ 32; omega)]
    rw [Int.fdiv_eq_ediv_of_nonneg _ (Int.pow_nonneg (by decide)), h0]
    rw [show (2 : Int) ^ (4 * m) = ((16 ^ m : Nat) : Int) by rw [Int.pow_mul]; simp]
    rfl
  have h2 : x.toNat / 16 ^ m ≤ x.toNat := Nat.div_le_self _ _
  rw [h1]
  simp only [ibit, wrap_mod, BitVec.toNat_and]
  have e : (BitVec.ofInt IntKind.u32.bits ((x.toNat / 16 ^ m : Nat) : Int)).toNat = x.toNat / 16 ^ m := by
    show (BitVec.ofInt 32 ((x.toNat / 16 ^ m : Nat) : Int)).toNat = _
    rw [BitVec.toNat_ofInt]
    have h6 : ((x.toNat / 16 ^ m : Nat) : Int) < 4294967296 := by omega
    show (((x.toNat / 16 ^ m : Nat) : Int) % 4294967296).toNat = _
    rw [Int.emod_eq_of_lt (Int.natCast_nonneg _) h6]
    rfl
  have e15 : (BitVec.ofInt IntKind.u32.bits 15).toNat = 15 := by decide
  rw [e, e15, show (15 : Nat) = 2 ^ 4 - 1 from rfl, Nat.and_two_pow_sub_one_eq_mod]
  have h7 : x.toNat / 16 ^ m % 2 ^ 4 < 16 := Nat.mod_lt _ (by decide)
  have h8 : nibS x m = x.toNat / 16 ^ m % 2 ^ 4 := rfl
  rw [h8]
  omega

theorem hx_digit (n : Nat) (h : n < 16) : ((hx.getD n 0).toNat : Int) = if n < 10 then 48 + (n : Int) else 87 + n := by
  have : ∀ n < 16, ((hx.getD n 0).toNat : Int) = if n < 10 then 48 + (n : Int) else 87 + n := by decide +kernel
  exact this n h

theorem loop21_1 {E : Env} (a b c d x : Int) (i : Nat) (hi : i < 4) (hx0 : ([.int .u32 a, .int .u32 b, .int .u32 c, .int .u32 d] : List S)[i]? = some (.int .u32 x)) (hok : okW x = true) : ∀ (m : Nat) (acc : List UInt8), m ≤ 8 → acc.length + m ≤ 1000 →
    blockR 2 [1, 3, 4] (loopR E [1, 3, 4, 5] l21_1 ⟨[(1, .loc 1 0), (3, growS [] (u8s acc)), (4, .int .i64 i), (5, .int .i64 (4 * (m : Int) - 4))], [(1, .rows false 4 [.agg [.int .u32 a, .int .u32 b, .int .u32 c, .int .u32 d]])], growH [] 1 (u8s acc)⟩) =
      some (.norm, ⟨[(1, .loc 1 0), (3, growS [] (u8s (acc ++ hexW x m))), (4, .int .i64 i)], [(1, .rows false 4 [.agg [.int .u32 a, .int .u32 b, .int .u32 c, .int .u32 d]])], growH [] 1 (u8s (acc ++ hexW x m))⟩) := by
  intro m
  induction m with
  | zero =>
    intro acc _ _
    have h1 : ¬ (0 : Int) ≤ -4 := by omega
    rw [show 4 * ((0 : Nat) : Int) - 4 = -4 from rfl]
    rw [loopR]
    conv => lhs; arg 3; arg 1; rw [l21_1]
    simp only [Aa, Ab, Ac, Ad, Ae, Af, Ag, Ah, Ai, Aj, Ak, Al, Am, Ao, Ap, Aq, Ar, Au, Av, Aw, Ay, Az, Ba, Bb, Bc, Bd, Be, Bf, Bg, Bh, Bi, Bj, Bk, Bl, Bm, Bn, Bo, Bp, Bq, Br, Bs, Bt, Bv, Bw, Bx, Bz, Ca, Cb, Cc, Cd, Ce, Cf, Cg, Ch, Ci, Cj, Ck, Cl, Cm, Cn, Co, Cp, Cq, Cr, Cs, Ct, Cu, Cv, Cw, Cy, Cz, Da, Option.map_some, Db, Dc, De, Df, Dg, Dh, Di, Dj, Dk, Dl, Dm, Dn, Dp, Dq, Dr, Dt, Du, Dv, Dw, Dx, Dy, Dz, Ea, Eb, Ec, Ed, Ee, Ef, Eg, Eh, Ei, Ej, Ek, El, Em, Eo, Ep, Er, Es, Et, Eu, Ev, Ew, Ey, Ez, Fa, Fb, Fc, Fe, Ff, Fg, Fh, Fj, Fl, Fm, Fp, Fq, Fs, Ft, Fu, Fv, Fw, Fx, Nat.reduceEqDiff, Nat.reduceAdd, Nat.reduceMul, Nat.reduceLT, Nat.reduceLeDiff, ↓reduceIte, Lw, Lx, Nat.reduceBEq, Ly, Ma, Mb, Mc, reduceCtorEq, Md, Me, Fy, Fz, Ga, Gb, Gc, Gd, Ge, Gf, Gg, Gh, Gi, Gj, Gk, Gl, Gm, Gn, Gp, Gq, Gr, Gs, Gt, Gu, Gv, Gw, Gx, Gy, Gz, Ha, Hb, Hc, Hd, He, Hf, Hg, Hh, Hj, Hk, Hl, Hm, Hn, Ho, Hq, Hr, Hs, Ht, Hu, Hv, Hw, Hy, Hz, Ia, Ib, Ic, Ie, Ig, Ih, Ii, Ij, Ik, Il, Im, Io, Ip, Iq, Ir, Iu, Iv, Iw, Iy, Iz, Ja, Jb, Jc, Jd, Je, Jf, Jg, Jh, Ji, Jj, Jk, Jl, Jm, Jn, Jo, Jp, Jq, Jr, Js, Jt, Ju, Jv, Jw, Jy, Jz, Ka, Kb, Kc, Ke, Kf, Kg, Kh, Ki, Kj, Kk, Kl, Km, Kn, Ko, Kq, Kr, Ks, Kt, Ku, Kv, Kw, Kx, Ky, Kz, and_self, true_and, and_true, Mf, Mg, Mh, Mi, Mj, Mk, Ml, Mm, Mn, Mo, Mp, Mq, Mr, Ms, Int.reduceToNat, Int.reduceLT, Int.reduceEq, Int.reduceLE, List.getElem?_cons_zero, List.getElem?_cons_succ, La, Lb, Lc, Mt, Mu, Mv, Mw, gt_iff_lt, ge_iff_le, Ld, Le, Lf, Lg, Lh, Li, Mx, My, Lj, Ll, Lm, Ln, Lp, Lr, Ls, Lt, Lu, Lv, Mz, Na, keep1_grow, h1, decide_false, hexW, List.append_nil]
  | succ m ih =>
    intro acc hm ha
    have h1 : (0 : Int) ≤ 4 * ((m + 1 : Nat) : Int) - 4 := by omega
    have h2 : (i : Int) < 4 := by omega
    have h3 : i + 1 ≤ 4 := by omega
    have hw1 : IntKind.u64.wrap (4 * ((m + 1 : Nat) : Int) - 4) = ((4 * m : Nat) : Int) := by
      rw [show 4 * ((m + 1 : Nat) : Int) - 4 = ((4 * m : Nat) : Int) by omega]
      exact wrap_u64 (by omega) (by omega)
    have hn := nib_and x hok m (by omega)
    have hlt : nibS x m < 16 := Nat.mod_lt _ (by decide)
    have hw2 : IntKind.u8.wrap (nibS x m : Int) = (nibS x m : Int) := wrap_u8 (by omega) (by omega)
    have hw3 : IntKind.i64.wrap (4 * ((m + 1 : Nat) : Int) - 4 - 4) = 4 * (m : Int) - 4 := by
      rw [show 4 * ((m + 1 : Nat) : Int) - 4 - 4 = 4 * (m : Int) - 4 by omega]
      exact wrap_i64 (by omega) (by omega)
    have hz : ¬ ((4 * m : Nat) : Int) < 0 := by omega
    have hd := hx_digit (nibS x m) hlt
    have hap := fun (dd : Nat) (os : List KO) (fr : Fr) (vars : Vars) => app_grow (E := E) (C := Call E) (d := dd) (os := os) (fr := fr) (vars := vars) (H := []) (esz := 1) (bytes := 1) (f := true) (p := true) (ys := u8s [hx.getD (nibS x m) 0]) (u8s_esz acc) (u8s_esz _) (by simp [u8s, okLen]; omega) (by simp [u8s])
    rw [← u8s_app] at hap
    have hys : u8s [hx.getD (nibS x m) 0] = [.int .u8 ((hx.getD (nibS x m) 0).toNat : Int)] := rfl
    rw [hys, hd] at hap
    have ih' := ih (acc ++ [hx.getD (nibS x m) 0]) (by omega) (by simp; omega)
    rw [List.append_assoc] at ih'
    rw [loopR]
    conv => lhs; arg 3; arg 1; rw [l21_1]
    rw [hexW]
    by_cases h10 : nibS x m < 10
    · have h4 : (nibS x m : Int) < 10 := by omega
      have hw4 : IntKind.u8.wrap (48 + (nibS x m : Int)) = 48 + (nibS x m : Int) := wrap_u8 (by omega) (by omega)
      rw [if_pos h10] at hap
      simp only [Aa, Ab, Ac, Ad, Ae, Af, Ag, Ah, Ai, Aj, Ak, Al, Am, Ao, Ap, Aq, Ar, Au, Av, Aw, Ay, Az, Ba, Bb, Bc, Bd, Be, Bf, Bg, Bh, Bi, Bj, Bk, Bl, Bm, Bn, Bo, Bp, Bq, Br, Bs, Bt, Bv, Bw, Bx, Bz, Ca, Cb, Cc, Cd, Ce, Cf, Cg, Ch, Ci, Cj, Ck, Cl, Cm, Cn, Co, Cp, Cq, Cr, Cs, Ct, Cu, Cv, Cw, Cy, Cz, Da, Option.map_some, Db, Dc, De, Df, Dg, Dh, Di, Dj, Dk, Dl, Dm, Dn, Dp, Dq, Dr, Dt, Du, Dv, Dw, Dx, Dy, Dz, Ea, Eb, Ec, Ed, Ee, Ef, Eg, Eh, Ei, Ej, Ek, El, Em, Eo, Ep, Er, Es, Et, Eu, Ev, Ew, Ey, Ez, Fa, Fb, Fc, Fe, Ff, Fg, Fh, Fj, Fl, Fm, Fp, Fq, Fs, Ft, Fu, Fv, Fw, Fx, Nat.reduceEqDiff, Nat.reduceAdd, Nat.reduceMul, Nat.reduceLT, Nat.reduceLeDiff, ↓reduceIte, Lw, Lx, Nat.reduceBEq, Ly, Ma, Mb, Mc, reduceCtorEq, Md, Me, Fy, Fz, Ga, Gb, Gc, Gd, Ge, Gf, Gg, Gh, Gi, Gj, Gk, Gl, Gm, Gn, Gp, Gq, Gr, Gs, Gt, Gu, Gv, Gw, Gx, Gy, Gz, Ha, Hb, Hc, Hd, He, Hf, Hg, Hh, Hj, Hk, Hl, Hm, Hn, Ho, Hq, Hr, Hs, Ht, Hu, Hv, Hw, Hy, Hz, Ia, Ib, Ic, Ie, Ig, Ih, Ii, Ij, Ik, Il, Im, Io, Ip, Iq, Ir, Iu, Iv, Iw, Iy, Iz, Ja, Jb, Jc, Jd, Je, Jf, Jg, Jh, Ji, Jj, Jk, Jl, Jm, Jn, Jo, Jp, Jq, Jr, Js, Jt, Ju, Jv, Jw, Jy, Jz, Ka, Kb, Kc, Ke, Kf, Kg, Kh, Ki, Kj, Kk, Kl, Km, Kn, Ko, Kq, Kr, Ks, Kt, Ku, Kv, Kw, Kx, Ky, Kz, and_self, true_and, and_true, Mf, Mg, Mh, Mi, Mj, Mk, Ml, Mm, Mn, Mo, Mp, Mq, Mr, Ms, Int.reduceToNat, Int.reduceLT, Int.reduceEq, Int.reduceLE, List.getElem?_cons_zero, List.getElem?_cons_succ, La, Lb, Lc, Mt, Mu, Mv, Mw, gt_iff_lt, ge_iff_le, Ld, Le, Lf, Lg, Lh, Li, Mx, My, Lj, Ll, Lm, Ln, Lp, Lr, Ls, Lt, Lu, Lv, Mz, Na, keep1_grow, h1, h2, h3, hw1, hw2, hw3, hw4, hn, hz, h4, hx0, hap, mk_one, decide_true]
      exact ih'
    · have h4 : ¬ (nibS x m : Int) < 10 := by omega
      have hw4 : IntKind.u8.wrap (97 + (nibS x m : Int)) = 97 + (nibS x m : Int) := wrap_u8 (by omega) (by omega)
      have hw5 : IntKind.u8.wrap (97 + (nibS x m : Int) - 10) = 87 + (nibS x m : Int) := by
        rw [show 97 + (nibS x m : Int) - 10 = 87 + (nibS x m : Int) by omega]
        exact wrap_u8 (by omega) (by omega)
      rw [if_neg h10] at hap
      simp only [Aa, Ab, Ac, Ad, Ae, Af, Ag, Ah, Ai, Aj, Ak, Al, Am, Ao, Ap, Aq, Ar, Au, Av, Aw, Ay, Az, Ba, Bb, Bc, Bd, Be, Bf, Bg, Bh, Bi, Bj, Bk, Bl, Bm, Bn, Bo, Bp, Bq, Br, Bs, Bt, Bv, Bw, Bx, Bz, Ca, Cb, Cc, Cd, Ce, Cf, Cg, Ch, Ci, Cj, Ck, Cl, Cm, Cn, Co, Cp, Cq, Cr, Cs, Ct, Cu, Cv, Cw, Cy, Cz, Da, Option.map_some, Db, Dc, De, Df, Dg, Dh, Di, Dj, Dk, Dl, Dm, Dn, Dp, Dq, Dr, Dt, Du, Dv, Dw, Dx, Dy, Dz, Ea, Eb, Ec, Ed, Ee, Ef, Eg, Eh, Ei, Ej, Ek, El, Em, Eo, Ep, Er, Es, Et, Eu, Ev, Ew, Ey, Ez, Fa, Fb, Fc, Fe, Ff, Fg, Fh, Fj, Fl, Fm, Fp, Fq, Fs, Ft, Fu, Fv, Fw, Fx, Nat.reduceEqDiff, Nat.reduceAdd, Nat.reduceMul, Nat.reduceLT, Nat.reduceLeDiff, ↓reduceIte, Lw, Lx, Nat.reduceBEq, Ly, Ma, Mb, Mc, reduceCtorEq, Md, Me, Fy, Fz, Ga, Gb, Gc, Gd, Ge, Gf, Gg, Gh, Gi, Gj, Gk, Gl, Gm, Gn, Gp, Gq, Gr, Gs, Gt, Gu, Gv, Gw, Gx, Gy, Gz, Ha, Hb, Hc, Hd, He, Hf, Hg, Hh, Hj, Hk, Hl, Hm, Hn, Ho, Hq, Hr, Hs, Ht, Hu, Hv, Hw, Hy, Hz, Ia, Ib, Ic, Ie, Ig, Ih, Ii, Ij, Ik, Il, Im, Io, Ip, Iq, Ir, Iu, Iv, Iw, Iy, Iz, Ja, Jb, Jc, Jd, Je, Jf, Jg, Jh, Ji, Jj, Jk, Jl, Jm, Jn, Jo, Jp, Jq, Jr, Js, Jt, Ju, Jv, Jw, Jy, Jz, Ka, Kb, Kc, Ke, Kf, Kg, Kh, Ki, Kj, Kk, Kl, Km, Kn, Ko, Kq, Kr, Ks, Kt, Ku, Kv, Kw, Kx, Ky, Kz, and_self, true_and, and_true, Mf, Mg, Mh, Mi, Mj, Mk, Ml, Mm, Mn, Mo, Mp, Mq, Mr, Ms, Int.reduceToNat, Int.reduceLT, Int.reduceEq, Int.reduceLE, List.getElem?_cons_zero, List.getElem?_cons_succ, La, Lb, Lc, Mt, Mu, Mv, Mw, gt_iff_lt, ge_iff_le, Ld, Le, Lf, Lg, Lh, Li, Mx, My, Lj, Ll, Lm, Ln, Lp, Lr, Ls, Lt, Lu, Lv, Mz, Na, keep1_grow, h1, h2, h3, hw1, hw2, hw3, hw4, hw5, hn, hz, h4, hx0, hap, mk_one, decide_true, decide_false]
      exact ih'

theorem b2s_grow {vars : Vars} {l : List UInt8} : b2sV vars (growH [] 1 (u8s l)) (growS [] (u8s l)) = some (.str l) := by
  have hb := bytesS_map l
  cases hl : u8s l with
  | nil =>
    cases l with
    | nil => rfl
    | cons x r => simp [u8s] at hl
  | cons x r =>
    have : elemsR ⟨[], vars, growH [] 1 (x :: r)⟩ (growS [] (x :: r)) = some (x :: r, [L.h 0]) := by
      simp [elemsR, growS, growH]
    rw [← hl] at this ⊢
    rw [b2sV, this]
    simp only [Option.bind_some]
    rw [show u8s l = l.map fun b => .int .u8 (b.toNat : Int) from rfl, hb]
    rfl

theorem d_text21 {E : Env} (h21 : E 21 = some (.code c21)) (a b c d : Int) (ha : okW a = true) (hb : okW b = true) (hc : okW c = true) (hd : okW d = true) (hp : Hp) :
    deepE E (Call E) 21 [.agg [.int .u32 a, .int .u32 b, .int .u32 c, .int .u32 d]] hp = some (.str (qtext a b c d)) := by
  rw [deep_code h21 rfl, deep_go]
  simp only [mapO_nil, mapO_cons, consO_some, snapA_agg, snapC_int, aggO_some, goD_some]
  rw [Call_mk E h21 _ _ rfl]
  have step : ∀ (i : Nat) (acc : List UInt8) (x : Int) (w : Int), i < 4 → ([.int .u32 a, .int .u32 b, .int .u32 c, .int .u32 d] : List S)[i]? = some (.int .u32 x) → okW x = true → acc.length ≤ 100 → w = ((i + 1 : Nat) : Int) →
      blockR 0 [3] (loopR E [1, 3, 4] l21_0 ⟨[(1, .loc 1 0), (3, growS [] (u8s acc)), (4, .int .i64 i)], [(1, .rows false 4 [.agg [.int .u32 a, .int .u32 b, .int .u32 c, .int .u32 d]])], growH [] 1 (u8s acc)⟩) =
      blockR 0 [3] (loopR E [1, 3, 4] l21_0 ⟨[(1, .loc 1 0), (3, growS [] (u8s (acc ++ hexW x 8))), (4, .int .i64 w)], [(1, .rows false 4 [.agg [.int .u32 a, .int .u32 b, .int .u32 c, .int .u32 d]])], growH [] 1 (u8s (acc ++ hexW x 8))⟩) := by
    intro i acc x w hi hx0 hok hlen hw
    subst hw
    have h1 : (i : Int) < 4 := by omega
    have hin := loop21_1 (E := E) a b c d x i hi hx0 hok 8 acc (by omega) (by omega)
    simp only [Int.cast_ofNat_Int, Int.reduceMul, Int.reduceSub] at hin
    have hw : IntKind.i64.wrap ((i : Int) + 1) = ((i + 1 : Nat) : Int) := wrap_i64 (by omega) (by omega)
    conv => lhs; rw [loopR]
    conv => lhs; arg 3; arg 1; rw [l21_0]
    simp only [Aa, Ab, Ac, Ad, Ae, Af, Ag, Ah, Ai, Aj, Ak, Al, Am, Ao, Ap, Aq, Ar, Au, Av, Aw, Ay, Az, Ba, Bb, Bc, Bd, Be, Bf, Bg, Bh, Bi, Bj, Bk, Bl, Bm, Bn, Bo, Bp, Bq, Br, Bs, Bt, Bv, Bw, Bx, Bz, Ca, Cb, Cc, Cd, Ce, Cf, Cg, Ch, Ci, Cj, Ck, Cl, Cm, Cn, Co, Cp, Cq, Cr, Cs, Ct, Cu, Cv, Cw, Cy, Cz, Da, Option.map_some, Db, Dc, De, Df, Dg, Dh, Di, Dj, Dk, Dl, Dm, Dn, Dp, Dq, Dr, Dt, Du, Dv, Dw, Dx, Dy, Dz, Ea, Eb, Ec, Ed, Ee, Ef, Eg, Eh, Ei, Ej, Ek, El, Em, Eo, Ep, Er, Es, Et, Eu, Ev, Ew, Ey, Ez, Fa, Fb, Fc, Fe, Ff, Fg, Fh, Fj, Fl, Fm, Fp, Fq, Fs, Ft, Fu, Fv, Fw, Fx, Nat.reduceEqDiff, Nat.reduceAdd, Nat.reduceMul, Nat.reduceLT, Nat.reduceLeDiff, ↓reduceIte, Lw, Lx, Nat.reduceBEq, Ly, Ma, Mb, Mc, reduceCtorEq, Md, Me, Fy, Fz, Ga, Gb, Gc, Gd, Ge, Gf, Gg, Gh, Gi, Gj, Gk, Gl, Gm, Gn, Gp, Gq, Gr, Gs, Gt, Gu, Gv, Gw, Gx, Gy, Gz, Ha, Hb, Hc, Hd, He, Hf, Hg, Hh, Hj, Hk, Hl, Hm, Hn, Ho, Hq, Hr, Hs, Ht, Hu, Hv, Hw, Hy, Hz, Ia, Ib, Ic, Ie, Ig, Ih, Ii, Ij, Ik, Il, Im, Io, Ip, Iq, Ir, Iu, Iv, Iw, Iy, Iz, Ja, Jb, Jc, Jd, Je, Jf, Jg, Jh, Ji, Jj, Jk, Jl, Jm, Jn, Jo, Jp, Jq, Jr, Js, Jt, Ju, Jv, Jw, Jy, Jz, Ka, Kb, Kc, Ke, Kf, Kg, Kh, Ki, Kj, Kk, Kl, Km, Kn, Ko, Kq, Kr, Ks, Kt, Ku, Kv, Kw, Kx, Ky, Kz, and_self, true_and, and_true, Mf, Mg, Mh, Mi, Mj, Mk, Ml, Mm, Mn, Mo, Mp, Mq, Mr, Ms, Int.reduceToNat, Int.reduceLT, Int.reduceEq, Int.reduceLE, List.getElem?_cons_zero, List.getElem?_cons_succ, La, Lb, Lc, Mt, Mu, Mv, Mw, gt_iff_lt, ge_iff_le, Ld, Le, Lf, Lg, Lh, Li, Mx, My, Lj, Ll, Lm, Ln, Lp, Lr, Ls, Lt, Lu, Lv, Mz, Na, keep1_grow, h1, decide_true]
    rw [hin]
    simp only [Aa, Ab, Ac, Ad, Ae, Af, Ag, Ah, Ai, Aj, Ak, Al, Am, Ao, Ap, Aq, Ar, Au, Av, Aw, Ay, Az, Ba, Bb, Bc, Bd, Be, Bf, Bg, Bh, Bi, Bj, Bk, Bl, Bm, Bn, Bo, Bp, Bq, Br, Bs, Bt, Bv, Bw, Bx, Bz, Ca, Cb, Cc, Cd, Ce, Cf, Cg, Ch, Ci, Cj, Ck, Cl, Cm, Cn, Co, Cp, Cq, Cr, Cs, Ct, Cu, Cv, Cw, Cy, Cz, Da, Option.map_some, Db, Dc, De, Df, Dg, Dh, Di, Dj, Dk, Dl, Dm, Dn, Dp, Dq, Dr, Dt, Du, Dv, Dw, Dx, Dy, Dz, Ea, Eb, Ec, Ed, Ee, Ef, Eg, Eh, Ei, Ej, Ek, El, Em, Eo, Ep, Er, Es, Et, Eu, Ev, Ew, Ey, Ez, Fa, Fb, Fc, Fe, Ff, Fg, Fh, Fj, Fl, Fm, Fp, Fq, Fs, Ft, Fu, Fv, Fw, Fx, Nat.reduceEqDiff, Nat.reduceAdd, Nat.reduceMul, Nat.reduceLT, Nat.reduceLeDiff, ↓reduceIte, Lw, Lx, Nat.reduceBEq, Ly, Ma, Mb, Mc, reduceCtorEq, Md, Me, Fy, Fz, Ga, Gb, Gc, Gd, Ge, Gf, Gg, Gh, Gi, Gj, Gk, Gl, Gm, Gn, Gp, Gq, Gr, Gs, Gt, Gu, Gv, Gw, Gx, Gy, Gz, Ha, Hb, Hc, Hd, He, Hf, Hg, Hh, Hj, Hk, Hl, Hm, Hn, Ho, Hq, Hr, Hs, Ht, Hu, Hv, Hw, Hy, Hz, Ia, Ib, Ic, Ie, Ig, Ih, Ii, Ij, Ik, Il, Im, Io, Ip, Iq, Ir, Iu, Iv, Iw, Iy, Iz, Ja, Jb, Jc, Jd, Je, Jf, Jg, Jh, Ji, Jj, Jk, Jl, Jm, Jn, Jo, Jp, Jq, Jr, Js, Jt, Ju, Jv, Jw, Jy, Jz, Ka, Kb, Kc, Ke, Kf, Kg, Kh, Ki, Kj, Kk, Kl, Km, Kn, Ko, Kq, Kr, Ks, Kt, Ku, Kv, Kw, Kx, Ky, Kz, and_self, true_and, and_true, Mf, Mg, Mh, Mi, Mj, Mk, Ml, Mm, Mn, Mo, Mp, Mq, Mr, Ms, Int.reduceToNat, Int.reduceLT, Int.reduceEq, Int.reduceLE, List.getElem?_cons_zero, List.getElem?_cons_succ, La, Lb, Lc, Mt, Mu, Mv, Mw, gt_iff_lt, ge_iff_le, Ld, Le, Lf, Lg, Lh, Li, Mx, My, Lj, Ll, Lm, Ln, Lp, Lr, Ls, Lt, Lu, Lv, Mz, Na, keep1_grow, hw]
  have e0 := step 0 [] a 1 (by decide) rfl ha (by simp) rfl
  have e1 := step 1 (hexW a 8) b 2 (by decide) rfl hb (by simp [hexW_len]) rfl
  have e2 := step 2 (hexW a 8 ++ hexW b 8) c 3 (by decide) rfl hc (by simp [hexW_len]) rfl
  have e3 := step 3 (hexW a 8 ++ hexW b 8 ++ hexW c 8) d 4 (by decide) rfl hd (by simp [hexW_len]) rfl
  have e4 : ∀ acc : List UInt8, blockR 0 [3] (loopR E [1, 3, 4] l21_0 ⟨[(1, .loc 1 0), (3, growS [] (u8s acc)), (4, .int .i64 4)], [(1, .rows false 4 [.agg [.int .u32 a, .int .u32 b, .int .u32 c, .int .u32 d]])], growH [] 1 (u8s acc)⟩) = some (.norm, ⟨[(3, growS [] (u8s acc))], [], growH [] 1 (u8s acc)⟩) := by
    intro acc
    rw [loopR]
    conv => lhs; arg 3; arg 1; rw [l21_0]
    simp only [Aa, Ab, Ac, Ad, Ae, Af, Ag, Ah, Ai, Aj, Ak, Al, Am, Ao, Ap, Aq, Ar, Au, Av, Aw, Ay, Az, Ba, Bb, Bc, Bd, Be, Bf, Bg, Bh, Bi, Bj, Bk, Bl, Bm, Bn, Bo, Bp, Bq, Br, Bs, Bt, Bv, Bw, Bx, Bz, Ca, Cb, Cc, Cd, Ce, Cf, Cg, Ch, Ci, Cj, Ck, Cl, Cm, Cn, Co, Cp, Cq, Cr, Cs, Ct, Cu, Cv, Cw, Cy, Cz, Da, Option.map_some, Db, Dc, De, Df, Dg, Dh, Di, Dj, Dk, Dl, Dm, Dn, Dp, Dq, Dr, Dt, Du, Dv, Dw, Dx, Dy, Dz, Ea, Eb, Ec, Ed, Ee, Ef, Eg, Eh, Ei, Ej, Ek, El, Em, Eo, Ep, Er, Es, Et, Eu, Ev, Ew, Ey, Ez, Fa, Fb, Fc, Fe, Ff, Fg, Fh, Fj, Fl, Fm, Fp, Fq, Fs, Ft, Fu, Fv, Fw, Fx, Nat.reduceEqDiff, Nat.reduceAdd, Nat.reduceMul, Nat.reduceLT, Nat.reduceLeDiff, ↓reduceIte, Lw, Lx, Nat.reduceBEq, Ly, Ma, Mb, Mc, reduceCtorEq, Md, Me, Fy, Fz, Ga, Gb, Gc, Gd, Ge, Gf, Gg, Gh, Gi, Gj, Gk, Gl, Gm, Gn, Gp, Gq, Gr, Gs, Gt, Gu, Gv, Gw, Gx, Gy, Gz, Ha, Hb, Hc, Hd, He, Hf, Hg, Hh, Hj, Hk, Hl, Hm, Hn, Ho, Hq, Hr, Hs, Ht, Hu, Hv, Hw, Hy, Hz, Ia, Ib, Ic, Ie, Ig, Ih, Ii, Ij, Ik, Il, Im, Io, Ip, Iq, Ir, Iu, Iv, Iw, Iy, Iz, Ja, Jb, Jc, Jd, Je, Jf, Jg, Jh, Ji, Jj, Jk, Jl, Jm, Jn, Jo, Jp, Jq, Jr, Js, Jt, Ju, Jv, Jw, Jy, Jz, Ka, Kb, Kc, Ke, Kf, Kg, Kh, Ki, Kj, Kk, Kl, Km, Kn, Ko, Kq, Kr, Ks, Kt, Ku, Kv, Kw, Kx, Ky, Kz, and_self, true_and, and_true, Mf, Mg, Mh, Mi, Mj, Mk, Ml, Mm, Mn, Mo, Mp, Mq, Mr, Ms, Int.reduceToNat, Int.reduceLT, Int.reduceEq, Int.reduceLE, List.getElem?_cons_zero, List.getElem?_cons_succ, La, Lb, Lc, Mt, Mu, Mv, Mw, gt_iff_lt, ge_iff_le, Ld, Le, Lf, Lg, Lh, Li, Mx, My, Lj, Ll, Lm, Ln, Lp, Lr, Ls, Lt, Lu, Lv, Mz, Na, keep1_grow, Int.lt_irrefl, decide_false]
  simp only [Int.cast_ofNat_Int, List.nil_append] at e0 e1 e2 e3
  rw [e1, e2, e3, e4] at e0
  rw [show growS [] (u8s []) = .list true true [] from rfl, show growH [] 1 (u8s []) = [] from rfl] at e0
  have hq : hexW a 8 ++ hexW b 8 ++ hexW c 8 ++ hexW d 8 = qtext a b c d := by simp [qtext]
  rw [hq] at e0
  simp only [Aa, Ab, Ac, Ad, Ae, Af, Ag, Ah, Ai, Aj, Ak, Al, Am, Ao, Ap, Aq, Ar, Au, Av, Aw, Ay, Az, Ba, Bb, Bc, Bd, Be, Bf, Bg, Bh, Bi, Bj, Bk, Bl, Bm, Bn, Bo, Bp, Bq, Br, Bs, Bt, Bv, Bw, Bx, Bz, Ca, Cb, Cc, Cd, Ce, Cf, Cg, Ch, Ci, Cj, Ck, Cl, Cm, Cn, Co, Cp, Cq, Cr, Cs, Ct, Cu, Cv, Cw, Cy, Cz, Da, Option.map_some, Db, Dc, De, Df, Dg, Dh, Di, Dj, Dk, Dl, Dm, Dn, Dp, Dq, Dr, Dt, Du, Dv, Dw, Dx, Dy, Dz, Ea, Eb, Ec, Ed, Ee, Ef, Eg, Eh, Ei, Ej, Ek, El, Em, Eo, Ep, Er, Es, Et, Eu, Ev, Ew, Ey, Ez, Fa, Fb, Fc, Fe, Ff, Fg, Fh, Fj, Fl, Fm, Fp, Fq, Fs, Ft, Fu, Fv, Fw, Fx, Nat.reduceEqDiff, Nat.reduceAdd, Nat.reduceMul, Nat.reduceLT, Nat.reduceLeDiff, ↓reduceIte, Lw, Lx, Nat.reduceBEq, Ly, Ma, Mb, Mc, reduceCtorEq, Md, Me, Fy, Fz, Ga, Gb, Gc, Gd, Ge, Gf, Gg, Gh, Gi, Gj, Gk, Gl, Gm, Gn, Gp, Gq, Gr, Gs, Gt, Gu, Gv, Gw, Gx, Gy, Gz, Ha, Hb, Hc, Hd, He, Hf, Hg, Hh, Hj, Hk, Hl, Hm, Hn, Ho, Hq, Hr, Hs, Ht, Hu, Hv, Hw, Hy, Hz, Ia, Ib, Ic, Ie, Ig, Ih, Ii, Ij, Ik, Il, Im, Io, Ip, Iq, Ir, Iu, Iv, Iw, Iy, Iz, Ja, Jb, Jc, Jd, Je, Jf, Jg, Jh, Ji, Jj, Jk, Jl, Jm, Jn, Jo, Jp, Jq, Jr, Js, Jt, Ju, Jv, Jw, Jy, Jz, Ka, Kb, Kc, Ke, Kf, Kg, Kh, Ki, Kj, Kk, Kl, Km, Kn, Ko, Kq, Kr, Ks, Kt, Ku, Kv, Kw, Kx, Ky, Kz, and_self, true_and, and_true, Mf, Mg, Mh, Mi, Mj, Mk, Ml, Mm, Mn, Mo, Mp, Mq, Mr, Ms, Int.reduceToNat, Int.reduceLT, Int.reduceEq, Int.reduceLE, List.getElem?_cons_zero, List.getElem?_cons_succ, La, Lb, Lc, Mt, Mu, Mv, Mw, gt_iff_lt, ge_iff_le, Ld, Le, Lf, Lg, Lh, Li, Mx, My, Lj, Ll, Lm, Ln, Lp, Lr, Ls, Lt, Lu, Lv, Mz, Na]
  rw [e0]
  simp only [Aa, Ab, Ac, Ad, Ae, Af, Ag, Ah, Ai, Aj, Ak, Al, Am, Ao, Ap, Aq, Ar, Au, Av, Aw, Ay, Az, Ba, Bb, Bc, Bd, Be, Bf, Bg, Bh, Bi, Bj, Bk, Bl, Bm, Bn, Bo, Bp, Bq, Br, Bs, Bt, Bv, Bw, Bx, Bz, Ca, Cb, Cc, Cd, Ce, Cf, Cg, Ch, Ci, Cj, Ck, Cl, Cm, Cn, Co, Cp, Cq, Cr, Cs, Ct, Cu, Cv, Cw, Cy, Cz, Da, Option.map_some, Db, Dc, De, Df, Dg, Dh, Di, Dj, Dk, Dl, Dm, Dn, Dp, Dq, Dr, Dt, Du, Dv, Dw, Dx, Dy, Dz, Ea, Eb, Ec, Ed, Ee, Ef, Eg, Eh, Ei, Ej, Ek, El, Em, Eo, Ep, Er, Es, Et, Eu, Ev, Ew, Ey, Ez, Fa, Fb, Fc, Fe, Ff, Fg, Fh, Fj, Fl, Fm, Fp, Fq, Fs, Ft, Fu, Fv, Fw, Fx, Nat.reduceEqDiff, Nat.reduceAdd, Nat.reduceMul, Nat.reduceLT, Nat.reduceLeDiff, ↓reduceIte, Lw, Lx, Nat.reduceBEq, Ly, Ma, Mb, Mc, reduceCtorEq, Md, Me, Fy, Fz, Ga, Gb, Gc, Gd, Ge, Gf, Gg, Gh, Gi, Gj, Gk, Gl, Gm, Gn, Gp, Gq, Gr, Gs, Gt, Gu, Gv, Gw, Gx, Gy, Gz, Ha, Hb, Hc, Hd, He, Hf, Hg, Hh, Hj, Hk, Hl, Hm, Hn, Ho, Hq, Hr, Hs, Ht, Hu, Hv, Hw, Hy, Hz, Ia, Ib, Ic, Ie, Ig, Ih, Ii, Ij, Ik, Il, Im, Io, Ip, Iq, Ir, Iu, Iv, Iw, Iy, Iz, Ja, Jb, Jc, Jd, Je, Jf, Jg, Jh, Ji, Jj, Jk, Jl, Jm, Jn, Jo, Jp, Jq, Jr, Js, Jt, Ju, Jv, Jw, Jy, Jz, Ka, Kb, Kc, Ke, Kf, Kg, Kh, Ki, Kj, Kk, Kl, Km, Kn, Ko, Kq, Kr, Ks, Kt, Ku, Kv, Kw, Kx, Ky, Kz, and_self, true_and, and_true, Mf, Mg, Mh, Mi, Mj, Mk, Ml, Mm, Mn, Mo, Mp, Mq, Mr, Ms, Int.reduceToNat, Int.reduceLT, Int.reduceEq, Int.reduceLE, List.getElem?_cons_zero, List.getElem?_cons_succ, La, Lb, Lc, Mt, Mu, Mv, Mw, gt_iff_lt, ge_iff_le, Ld, Le, Lf, Lg, Lh, Li, Mx, My, Lj, Ll, Lm, Ln, Lp, Lr, Ls, Lt, Lu, Lv, Mz, Na, b2s_grow]

theorem binS_str_eq (a b : List UInt8) : binS .eql (.str a) (.str b) = some (.bool (a == b)) := rfl
theorem eqvS_fours (ws vs : List Int) (h : ws = vs) (hl : ws.length = 4) : eqvS false true [.i, .i, .i, .i] (.agg (u32s ws)) (.agg (u32s vs)) = some (.bool true) := by
  subst h
  match ws, hl with
  | [a, b, c, d], _ => exact eqvS_four a b c d

/-- Parse's answer in parts. -/
theorem parseS_parts (s : List UInt8) : ∃ ws e, parseS s = .tup [.agg (u32s ws), .int .i64 e] ∧ ws.length = 4 := by
  unfold parseS
  split
  · cases h : pz s 0 [0, 0, 0, 0] with
    | some ws => exact ⟨ws, 0, rfl, by rw [pz_len _ _ _ _ h]; rfl⟩
    | none => exact ⟨[0, 0, 0, 0], 7, rfl, rfl⟩
  · exact ⟨[0, 0, 0, 0], 7, rfl, rfl⟩

theorem take2_ok {x y : Int} {q : Q} (hx : okW x = true) (hy : okW y = true) (h : q.ok) : (take2 x y q).ok := by
  obtain ⟨ha, hb, hc, hd⟩ := h
  have hp : (perm ⟨x32 q.a x, x32 q.b y, q.c, q.d⟩).ok := rnds_ok 12 ⟨ok_xor ha hx, ok_xor hb hy, hc, hd⟩
  exact ⟨hp.1, hp.2.1, ok_xor hp.2.2.1 hx, ok_xor hp.2.2.2 hy⟩
theorem wloop_ok : ∀ (l : List Int) (q : Q), (∀ x ∈ l, okW x = true) → q.ok → (wloop l q).ok
  | [], q, _, h => h
  | [x], q, hl, h => take2_ok (hl x (by simp)) rfl h
  | x :: y :: r, q, hl, h => wloop_ok r _ (fun z hz => hl z (by simp [hz])) (take2_ok (hl x (by simp)) (hl y (by simp)) h)
theorem words_ok (t : Int) (l : List Int) (ht : okW t = true) (hl : ∀ x ∈ l, okW x = true) : (words t l).ok := by
  have hlen : okW (w32 l.length) = true := by
    have : w32 (l.length : Int) = wv (BitVec.ofNat 32 l.length) := by
      simp only [w32, wrap_mod, wv, BitVec.toNat_ofNat]
      omega
    rw [this]; exact wv_ok _
  have h1 := wloop_ok l ⟨1702391089, 1651466610, t, w32 l.length⟩ hl ⟨rfl, rfl, ht, hlen⟩
  have h2 : (perm ⟨(wloop l ⟨1702391089, 1651466610, t, w32 l.length⟩).a, (wloop l ⟨1702391089, 1651466610, t, w32 l.length⟩).b, x32 (wloop l ⟨1702391089, 1651466610, t, w32 l.length⟩).c 4294967295, (wloop l ⟨1702391089, 1651466610, t, w32 l.length⟩).d⟩).ok :=
    rnds_ok 12 ⟨h1.1, h1.2.1, ok_xor h1.2.2.1 rfl, h1.2.2.2⟩
  exact rnds_ok 12 h2

theorem reg4_0 {E : Env} (h26 : E 26 = some (.code c26)) (h13 : E 13 = some (.code c13)) (h12 : E 12 = some (.code c12)) (a b c d t : Int) (f p : Bool) (l : List Int) (hl : l.length ≤ 1000) (fr : Fr) (vars : Vars)
    (g5 : getF fr 5 = .loc 5 0) (g1 : getF fr 1 = .int .u32 t) (g2 : getF fr 2 = .list f p (u32s l)) (gv : getV vars 5 = some (.rows false 4 [.agg [.int .u32 a, .int .u32 b, .int .u32 c, .int .u32 d]])) :
    Run E (.dregion d4_0) ⟨fr, vars, []⟩ = some (.norm, ⟨(16, .ptr 1 4 0 0) :: (15, .ptr 0 4 0 0) :: (44, (words t l).s) :: (43, .list f p (u32s l)) :: (42, .int .u32 t) :: (41, .agg [.int .u32 a, .int .u32 b, .int .u32 c, .int .u32 d]) :: fr, vars,
      [.rows false 1 [.int .u32 a, .int .u32 b, .int .u32 c, .int .u32 d], .rows false 1 [.int .u32 (words t l).a, .int .u32 (words t l).b, .int .u32 (words t l).c, .int .u32 (words t l).d]]⟩) := by
  have hw := fun hp => d_words12 h26 h13 h12 t f p l (by omega) hp
  refine regionD_of (ops := d4_0) (runD_step (slot' := 0) (v := .agg [.int .u32 a, .int .u32 b, .int .u32 c, .int .u32 d]) (rd := [.v 5]) (wr := []) rfl ?_ rfl ⟨rfl, .inl rfl, rfl⟩ (runD_step (slot' := 0) (v := .int .u32 t) (rd := []) (wr := []) rfl ?_ rfl ⟨rfl, .inl rfl, rfl⟩ (runD_step (slot' := 0) (v := .list f p (u32s l)) (rd := []) (wr := []) rfl ?_ rfl ⟨rfl, .inl rfl, rfl⟩
    (runD_step (slot' := 0) (v := (words t l).s) (rd := []) (wr := []) rfl ?_ rfl ⟨rfl, .inl rfl, rfl⟩ (runD_step (slot' := 1) rfl rfl rfl ⟨rfl, .inr rfl, rfl⟩ (runD_step (slot' := 2) rfl rfl rfl ⟨rfl, .inr rfl, rfl⟩ (runD_step (slot' := 2) rfl rfl rfl ⟨rfl, .inl rfl, rfl⟩ (runD_step (slot' := 2) rfl rfl rfl ⟨rfl, .inl rfl, rfl⟩ rfl)))))))) rfl rfl rfl rfl
  · simp only [evalK, A.ev, g5, loadR, gv]
    rfl
  · simp only [evalK, A.ev, wrs_nil, put_some, getF_cons, Nat.reduceEqDiff, if_false, g1]
  · simp only [evalK, A.ev, wrs_nil, put_some, getF_cons, Nat.reduceEqDiff, if_false, g2]
  · simp only [evalK, evs, A.ev, wrs_nil, put_some, getF_cons, Nat.reduceEqDiff, if_false, if_true, hw]
    rfl

theorem c_exact {E : Env} (h24 : E 24 = some (.prim pIndexByte)) (h6 : E 6 = some (.prim pText)) (h7 : E 7 = some (.code c7)) (h11 : E 11 = some (.code c11)) (h25 : E 25 = some (.code c25)) (h9 : E 9 = some (.code c9)) (h14 : E 14 = some (.code c14)) (h15 : E 15 = some (.code c15)) (h17 : E 17 = some (.code c17)) (h19 : E 19 = some (.code c19))
    (h26 : E 26 = some (.code c26)) (h13 : E 13 = some (.code c13)) (h12 : E 12 = some (.code c12)) (h16 : E 16 = some (.code c16)) (h18 : E 18 = some (.code c18)) (h20 : E 20 = some (.code c20)) (h21 : E 21 = some (.code c21)) (h4 : E 4 = some (.code c4)) {c8' : CFun} (h8 : E 8 = some (.code c8')) (h8d : c8'.deep = true)
    (hsane : ∀ hp, deepE E (Call E) 8 [] hp = some (.bool true)) (a b c d t : Int) (ha : okW a = true) (hb : okW b = true) (hc : okW c = true) (hd : okW d = true) (f p f' p' : Bool) (l n : List Int) (s : List UInt8) (hs : s.length ≤ 140737488351232) :
    ∃ hp, Call E 4 [.agg [.int .u32 a, .int .u32 b, .int .u32 c, .int .u32 d], .int .u32 t, .list f p (u32s l), .list f' p' (i64s n), .str s] [] = some (.bool true, hp) := by
  rw [Call_mk E h4 _ _ rfl]
  have h8d' : Fun.isDeep (.code c8') = true := h8d
  by_cases b1 : 100 < l.length
  · have h1 : (100 : Int) < (l.length : Int) := by omega
    refine ⟨[], ?_⟩
    simp only [Aa, Ab, Ac, Ad, Ae, Af, Ag, Ah, Ai, Aj, Ak, Al, Am, Ao, Ap, Aq, Ar, Au, Av, Aw, Ay, Az, Ba, Bb, Bc, Bd, Be, Bf, Bg, Bh, Bi, Bj, Bk, Bl, Bm, Bn, Bo, Bp, Bq, Br, Bs, Bt, Bv, Bw, Bx, Bz, Ca, Cb, Cc, Cd, Ce, Cf, Cg, Ch, Ci, Cj, Ck, Cl, Cm, Cn, Co, Cp, Cq, Cr, Cs, Ct, Cu, Cv, Cw, Cy, Cz, Da, Option.map_some, Db, Dc, De, Df, Dg, Dh, Di, Dj, Dk, Dl, Dm, Dn, Dp, Dq, Dr, Dt, Du, Dv, Dw, Dx, Dy, Dz, Ea, Eb, Ec, Ed, Ee, Ef, Eg, Eh, Ei, Ej, Ek, El, Em, Eo, Ep, Er, Es, Et, Eu, Ev, Ew, Ey, Ez, Fa, Fb, Fc, Fe, Ff, Fg, Fh, Fj, Fl, Fm, Fp, Fq, Fs, Ft, Fu, Fv, Fw, Fx, Nat.reduceEqDiff, Nat.reduceAdd, Nat.reduceMul, Nat.reduceLT, Nat.reduceLeDiff, ↓reduceIte, Lw, Lx, Nat.reduceBEq, Ly, Ma, Mb, Mc, reduceCtorEq, Md, Me, Fy, Fz, Ga, Gb, Gc, Gd, Ge, Gf, Gg, Gh, Gi, Gj, Gk, Gl, Gm, Gn, Gp, Gq, Gr, Gs, Gt, Gu, Gv, Gw, Gx, Gy, Gz, Ha, Hb, Hc, Hd, He, Hf, Hg, Hh, Hj, Hk, Hl, Hm, Hn, Ho, Hq, Hr, Hs, Ht, Hu, Hv, Hw, Hy, Hz, Ia, Ib, Ic, Ie, Ig, Ih, Ii, Ij, Ik, Il, Im, Io, Ip, Iq, Ir, Iu, Iv, Iw, Iy, Iz, Ja, Jb, Jc, Jd, Je, Jf, Jg, Jh, Ji, Jj, Jk, Jl, Jm, Jn, Jo, Jp, Jq, Jr, Js, Jt, Ju, Jv, Jw, Jy, Jz, Ka, Kb, Kc, Ke, Kf, Kg, Kh, Ki, Kj, Kk, Kl, Km, Kn, Ko, Kq, Kr, Ks, Kt, Ku, Kv, Kw, Kx, Ky, Kz, and_self, true_and, and_true, Mf, Mg, Mh, Mi, Mj, Mk, Ml, Mm, Mn, Mo, Mp, Mq, Mr, Ms, Int.reduceToNat, Int.reduceLT, Int.reduceEq, Int.reduceLE, List.getElem?_cons_zero, List.getElem?_cons_succ, La, Lb, Lc, Mt, Mu, Mv, Mw, gt_iff_lt, ge_iff_le, Ld, Le, Lf, Lg, Lh, Li, Mx, My, Lj, Ll, Lm, Ln, Lp, Lr, Ls, Lt, Lu, Lv, Mz, Na, u32s_len, i64s_len, h1, decide_true, op_call_deep _ _ h8 h8d', hsane]
  · have h1 : ¬ (100 : Int) < (l.length : Int) := by omega
    by_cases b2 : 100 < n.length
    · have h2 : (100 : Int) < (n.length : Int) := by omega
      refine ⟨[], ?_⟩
      simp only [Aa, Ab, Ac, Ad, Ae, Af, Ag, Ah, Ai, Aj, Ak, Al, Am, Ao, Ap, Aq, Ar, Au, Av, Aw, Ay, Az, Ba, Bb, Bc, Bd, Be, Bf, Bg, Bh, Bi, Bj, Bk, Bl, Bm, Bn, Bo, Bp, Bq, Br, Bs, Bt, Bv, Bw, Bx, Bz, Ca, Cb, Cc, Cd, Ce, Cf, Cg, Ch, Ci, Cj, Ck, Cl, Cm, Cn, Co, Cp, Cq, Cr, Cs, Ct, Cu, Cv, Cw, Cy, Cz, Da, Option.map_some, Db, Dc, De, Df, Dg, Dh, Di, Dj, Dk, Dl, Dm, Dn, Dp, Dq, Dr, Dt, Du, Dv, Dw, Dx, Dy, Dz, Ea, Eb, Ec, Ed, Ee, Ef, Eg, Eh, Ei, Ej, Ek, El, Em, Eo, Ep, Er, Es, Et, Eu, Ev, Ew, Ey, Ez, Fa, Fb, Fc, Fe, Ff, Fg, Fh, Fj, Fl, Fm, Fp, Fq, Fs, Ft, Fu, Fv, Fw, Fx, Nat.reduceEqDiff, Nat.reduceAdd, Nat.reduceMul, Nat.reduceLT, Nat.reduceLeDiff, ↓reduceIte, Lw, Lx, Nat.reduceBEq, Ly, Ma, Mb, Mc, reduceCtorEq, Md, Me, Fy, Fz, Ga, Gb, Gc, Gd, Ge, Gf, Gg, Gh, Gi, Gj, Gk, Gl, Gm, Gn, Gp, Gq, Gr, Gs, Gt, Gu, Gv, Gw, Gx, Gy, Gz, Ha, Hb, Hc, Hd, He, Hf, Hg, Hh, Hj, Hk, Hl, Hm, Hn, Ho, Hq, Hr, Hs, Ht, Hu, Hv, Hw, Hy, Hz, Ia, Ib, Ic, Ie, Ig, Ih, Ii, Ij, Ik, Il, Im, Io, Ip, Iq, Ir, Iu, Iv, Iw, Iy, Iz, Ja, Jb, Jc, Jd, Je, Jf, Jg, Jh, Ji, Jj, Jk, Jl, Jm, Jn, Jo, Jp, Jq, Jr, Js, Jt, Ju, Jv, Jw, Jy, Jz, Ka, Kb, Kc, Ke, Kf, Kg, Kh, Ki, Kj, Kk, Kl, Km, Kn, Ko, Kq, Kr, Ks, Kt, Ku, Kv, Kw, Kx, Ky, Kz, and_self, true_and, and_true, Mf, Mg, Mh, Mi, Mj, Mk, Ml, Mm, Mn, Mo, Mp, Mq, Mr, Ms, Int.reduceToNat, Int.reduceLT, Int.reduceEq, Int.reduceLE, List.getElem?_cons_zero, List.getElem?_cons_succ, La, Lb, Lc, Mt, Mu, Mv, Mw, gt_iff_lt, ge_iff_le, Ld, Le, Lf, Lg, Lh, Li, Mx, My, Lj, Ll, Lm, Ln, Lp, Lr, Ls, Lt, Lu, Lv, Mz, Na, u32s_len, i64s_len, h1, h2, decide_true, decide_false, op_call_deep _ _ h8 h8d', hsane]
    · have h2 : ¬ (100 : Int) < (n.length : Int) := by omega
      by_cases b3 : 400 < s.length
      · have h3 : (400 : Int) < (s.length : Int) := by omega
        refine ⟨[], ?_⟩
        simp only [Aa, Ab, Ac, Ad, Ae, Af, Ag, Ah, Ai, Aj, Ak, Al, Am, Ao, Ap, Aq, Ar, Au, Av, Aw, Ay, Az, Ba, Bb, Bc, Bd, Be, Bf, Bg, Bh, Bi, Bj, Bk, Bl, Bm, Bn, Bo, Bp, Bq, Br, Bs, Bt, Bv, Bw, Bx, Bz, Ca, Cb, Cc, Cd, Ce, Cf, Cg, Ch, Ci, Cj, Ck, Cl, Cm, Cn, Co, Cp, Cq, Cr, Cs, Ct, Cu, Cv, Cw, Cy, Cz, Da, Option.map_some, Db, Dc, De, Df, Dg, Dh, Di, Dj, Dk, Dl, Dm, Dn, Dp, Dq, Dr, Dt, Du, Dv, Dw, Dx, Dy, Dz, Ea, Eb, Ec, Ed, Ee, Ef, Eg, Eh, Ei, Ej, Ek, El, Em, Eo, Ep, Er, Es, Et, Eu, Ev, Ew, Ey, Ez, Fa, Fb, Fc, Fe, Ff, Fg, Fh, Fj, Fl, Fm, Fp, Fq, Fs, Ft, Fu, Fv, Fw, Fx, Nat.reduceEqDiff, Nat.reduceAdd, Nat.reduceMul, Nat.reduceLT, Nat.reduceLeDiff, ↓reduceIte, Lw, Lx, Nat.reduceBEq, Ly, Ma, Mb, Mc, reduceCtorEq, Md, Me, Fy, Fz, Ga, Gb, Gc, Gd, Ge, Gf, Gg, Gh, Gi, Gj, Gk, Gl, Gm, Gn, Gp, Gq, Gr, Gs, Gt, Gu, Gv, Gw, Gx, Gy, Gz, Ha, Hb, Hc, Hd, He, Hf, Hg, Hh, Hj, Hk, Hl, Hm, Hn, Ho, Hq, Hr, Hs, Ht, Hu, Hv, Hw, Hy, Hz, Ia, Ib, Ic, Ie, Ig, Ih, Ii, Ij, Ik, Il, Im, Io, Ip, Iq, Ir, Iu, Iv, Iw, Iy, Iz, Ja, Jb, Jc, Jd, Je, Jf, Jg, Jh, Ji, Jj, Jk, Jl, Jm, Jn, Jo, Jp, Jq, Jr, Js, Jt, Ju, Jv, Jw, Jy, Jz, Ka, Kb, Kc, Ke, Kf, Kg, Kh, Ki, Kj, Kk, Kl, Km, Kn, Ko, Kq, Kr, Ks, Kt, Ku, Kv, Kw, Kx, Ky, Kz, and_self, true_and, and_true, Mf, Mg, Mh, Mi, Mj, Mk, Ml, Mm, Mn, Mo, Mp, Mq, Mr, Ms, Int.reduceToNat, Int.reduceLT, Int.reduceEq, Int.reduceLE, List.getElem?_cons_zero, List.getElem?_cons_succ, La, Lb, Lc, Mt, Mu, Mv, Mw, gt_iff_lt, ge_iff_le, Ld, Le, Lf, Lg, Lh, Li, Mx, My, Lj, Ll, Lm, Ln, Lp, Lr, Ls, Lt, Lu, Lv, Mz, Na, u32s_len, i64s_len, h1, h2, h3, decide_true, decide_false, op_call_deep _ _ h8 h8d', hsane]
      · have h3 : ¬ (400 : Int) < (s.length : Int) := by omega
        obtain ⟨ws, e, hpar, hwl⟩ := parseS_parts s
        have p7 := fun hp => d_parse7 h24 h7 s hs hp
        have p11 := fun hp => d_parse11 h11 s hs hp
        rw [hpar] at p7 p11
        obtain ⟨w0, w1, w2, w3, rfl⟩ : ∃ w0 w1 w2 w3, ws = [w0, w1, w2, w3] := by
          match ws, hwl with
          | [w0, w1, w2, w3], _ => exact ⟨w0, w1, w2, w3, rfl⟩
        have q9 := fun hp => d_perm9 h25 h9 a b c d hp
        have q13 := fun hp => d_perm13 h26 h13 a b c d hp
        have w14 := fun hp => d_words14 h25 h9 h14 t f p l (by omega) hp
        have n15 := fun hp => d_numbers15 h25 h9 h14 h15 t f' p' n (by omega) hp
        have n16 := fun hp => d_numbers16 h26 h13 h12 h16 t f' p' n (by omega) hp
        have b17 := fun hp => d_bytes17 h25 h9 h14 h17 t s (by omega) hp
        have b18 := fun hp => d_bytes18 h26 h13 h12 h18 t s (by omega) hp
        have j19 := fun e' f g h hp => d_join19 h25 h9 h14 h19 a b c d e' f g h hp
        have j20 := fun e' f g h hp => d_join20 h26 h13 h12 h20 a b c d e' f g h hp
        have t6 := fun hp => d_text6 h6 a b c d ha hb hc hd hp
        have t21 := fun hp => d_text21 h21 a b c d ha hb hc hd hp
        have r0 := fun fr vars g5 g1 g2 gv => reg4_0 h26 h13 h12 a b c d t f p l (by omega) fr vars g5 g1 g2 gv
        simp only [Q.s, u32s, List.map_cons, List.map_nil] at q9 q13 w14 n15 n16 b17 b18 j19 j20 r0 p7 p11
        refine ⟨[.rows false 1 [.int .u32 a, .int .u32 b, .int .u32 c, .int .u32 d], .rows false 1 [.int .u32 (words t l).a, .int .u32 (words t l).b, .int .u32 (words t l).c, .int .u32 (words t l).d]], ?_⟩
        simp only [Aa, Ab, Ac, Ad, Ae, Af, Ag, Ah, Ai, Aj, Ak, Al, Am, Ao, Ap, Aq, Ar, Au, Av, Aw, Ay, Az, Ba, Bb, Bc, Bd, Be, Bf, Bg, Bh, Bi, Bj, Bk, Bl, Bm, Bn, Bo, Bp, Bq, Br, Bs, Bt, Bv, Bw, Bx, Bz, Ca, Cb, Cc, Cd, Ce, Cf, Cg, Ch, Ci, Cj, Ck, Cl, Cm, Cn, Co, Cp, Cq, Cr, Cs, Ct, Cu, Cv, Cw, Cy, Cz, Da, Option.map_some, Db, Dc, De, Df, Dg, Dh, Di, Dj, Dk, Dl, Dm, Dn, Dp, Dq, Dr, Dt, Du, Dv, Dw, Dx, Dy, Dz, Ea, Eb, Ec, Ed, Ee, Ef, Eg, Eh, Ei, Ej, Ek, El, Em, Eo, Ep, Er, Es, Et, Eu, Ev, Ew, Ey, Ez, Fa, Fb, Fc, Fe, Ff, Fg, Fh, Fj, Fl, Fm, Fp, Fq, Fs, Ft, Fu, Fv, Fw, Fx, Nat.reduceEqDiff, Nat.reduceAdd, Nat.reduceMul, Nat.reduceLT, Nat.reduceLeDiff, ↓reduceIte, Lw, Lx, Nat.reduceBEq, Ly, Ma, Mb, Mc, reduceCtorEq, Md, Me, Fy, Fz, Ga, Gb, Gc, Gd, Ge, Gf, Gg, Gh, Gi, Gj, Gk, Gl, Gm, Gn, Gp, Gq, Gr, Gs, Gt, Gu, Gv, Gw, Gx, Gy, Gz, Ha, Hb, Hc, Hd, He, Hf, Hg, Hh, Hj, Hk, Hl, Hm, Hn, Ho, Hq, Hr, Hs, Ht, Hu, Hv, Hw, Hy, Hz, Ia, Ib, Ic, Ie, Ig, Ih, Ii, Ij, Ik, Il, Im, Io, Ip, Iq, Ir, Iu, Iv, Iw, Iy, Iz, Ja, Jb, Jc, Jd, Je, Jf, Jg, Jh, Ji, Jj, Jk, Jl, Jm, Jn, Jo, Jp, Jq, Jr, Js, Jt, Ju, Jv, Jw, Jy, Jz, Ka, Kb, Kc, Ke, Kf, Kg, Kh, Ki, Kj, Kk, Kl, Km, Kn, Ko, Kq, Kr, Ks, Kt, Ku, Kv, Kw, Kx, Ky, Kz, and_self, true_and, and_true, Mf, Mg, Mh, Mi, Mj, Mk, Ml, Mm, Mn, Mo, Mp, Mq, Mr, Ms, Int.reduceToNat, Int.reduceLT, Int.reduceEq, Int.reduceLE, List.getElem?_cons_zero, List.getElem?_cons_succ, La, Lb, Lc, Mt, Mu, Mv, Mw, gt_iff_lt, ge_iff_le, Ld, Le, Lf, Lg, Lh, Li, Mx, My, Lj, Ll, Lm, Ln, Lp, Lr, Ls, Lt, Lu, Lv, Mz, Na, u32s, List.length_map, i64s_len, h1, h2, h3, decide_false, op_call_deep _ _ h7 rfl, op_call_deep _ _ h11 rfl, p7, p11]
        rw [r0 _ _ rfl rfl rfl rfl]
        simp only [Aa, Ab, Ac, Ad, Ae, Af, Ag, Ah, Ai, Aj, Ak, Al, Am, Ao, Ap, Aq, Ar, Au, Av, Aw, Ay, Az, Ba, Bb, Bc, Bd, Be, Bf, Bg, Bh, Bi, Bj, Bk, Bl, Bm, Bn, Bo, Bp, Bq, Br, Bs, Bt, Bv, Bw, Bx, Bz, Ca, Cb, Cc, Cd, Ce, Cf, Cg, Ch, Ci, Cj, Ck, Cl, Cm, Cn, Co, Cp, Cq, Cr, Cs, Ct, Cu, Cv, Cw, Cy, Cz, Da, Option.map_some, Db, Dc, De, Df, Dg, Dh, Di, Dj, Dk, Dl, Dm, Dn, Dp, Dq, Dr, Dt, Du, Dv, Dw, Dx, Dy, Dz, Ea, Eb, Ec, Ed, Ee, Ef, Eg, Eh, Ei, Ej, Ek, El, Em, Eo, Ep, Er, Es, Et, Eu, Ev, Ew, Ey, Ez, Fa, Fb, Fc, Fe, Ff, Fg, Fh, Fj, Fl, Fm, Fp, Fq, Fs, Ft, Fu, Fv, Fw, Fx, Nat.reduceEqDiff, Nat.reduceAdd, Nat.reduceMul, Nat.reduceLT, Nat.reduceLeDiff, ↓reduceIte, Lw, Lx, Nat.reduceBEq, Ly, Ma, Mb, Mc, reduceCtorEq, Md, Me, Fy, Fz, Ga, Gb, Gc, Gd, Ge, Gf, Gg, Gh, Gi, Gj, Gk, Gl, Gm, Gn, Gp, Gq, Gr, Gs, Gt, Gu, Gv, Gw, Gx, Gy, Gz, Ha, Hb, Hc, Hd, He, Hf, Hg, Hh, Hj, Hk, Hl, Hm, Hn, Ho, Hq, Hr, Hs, Ht, Hu, Hv, Hw, Hy, Hz, Ia, Ib, Ic, Ie, Ig, Ih, Ii, Ij, Ik, Il, Im, Io, Ip, Iq, Ir, Iu, Iv, Iw, Iy, Iz, Ja, Jb, Jc, Jd, Je, Jf, Jg, Jh, Ji, Jj, Jk, Jl, Jm, Jn, Jo, Jp, Jq, Jr, Js, Jt, Ju, Jv, Jw, Jy, Jz, Ka, Kb, Kc, Ke, Kf, Kg, Kh, Ki, Kj, Kk, Kl, Km, Kn, Ko, Kq, Kr, Ks, Kt, Ku, Kv, Kw, Kx, Ky, Kz, and_self, true_and, and_true, Mf, Mg, Mh, Mi, Mj, Mk, Ml, Mm, Mn, Mo, Mp, Mq, Mr, Ms, Int.reduceToNat, Int.reduceLT, Int.reduceEq, Int.reduceLE, List.getElem?_cons_zero, List.getElem?_cons_succ, La, Lb, Lc, Mt, Mu, Mv, Mw, gt_iff_lt, ge_iff_le, Ld, Le, Lf, Lg, Lh, Li, Mx, My, Lj, Ll, Lm, Ln, Lp, Lr, Ls, Lt, Lu, Lv, Mz, Na, rd4_1 E (show deepB E 6 = true by simp [deepB, h6, Fun.isDeep]) (deepB_code h8 h8d) (deepB_code h9 rfl) (deepB_code h13 rfl) (deepB_code h14 rfl) (deepB_code h15 rfl) (deepB_code h16 rfl) (deepB_code h17 rfl) (deepB_code h18 rfl) (deepB_code h19 rfl) (deepB_code h20 rfl) (deepB_code h21 rfl), d4_1,
          op_call_deep _ _ h9 rfl, op_call_deep _ _ h13 rfl, op_call_deep _ _ h14 rfl, op_call_deep _ _ h15 rfl, op_call_deep _ _ h16 rfl, op_call_deep _ _ h17 rfl, op_call_deep _ _ h18 rfl, op_call_deep _ _ h19 rfl, op_call_deep _ _ h20 rfl, op_call_deep _ _ h21 rfl, op_call_deep _ _ h6 rfl, op_call_deep _ _ h8 h8d',
          q9, q13, w14, n15, n16, b17, b18, j19, j20, t6, t21, hsane, eqvS_four, binS_str_eq, beq_self_eq_true, decide_true, List.flatMap_cons, List.flatMap_nil, List.cons_append, List.nil_append]
end Go.Proofs.Ytepedjncjehmgaa.Sim
