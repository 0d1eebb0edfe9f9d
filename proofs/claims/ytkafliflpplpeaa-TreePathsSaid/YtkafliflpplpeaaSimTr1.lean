/- Chapter 39's permutation in the small machine. Chapter 39's words in the small machine. Chapter 39's numbers in the small machine. Chapter 39's texts as words in the small machine. Texts as words of four bytes: what digest.Bytes makes, and what the law's own loops make. Chapter 39's Parse, both, in the small machine. The law DigestBack in the small machine. The law DigestUndone in the small machine. The reference of chapter 39 in the small machine: permutation, words, numbers, texts. The reference of chapter 39 in the small machine: numbers, texts, pairs, digits. Chapter 40 in the small machine: leaves, splits, roots. Chapter 40 in the small machine: paths. No conditions. -/
import Derived.Test.YtkafliflpplpeaaSimC39
import Derived.Test.YtkafliflpplpeaaSimB2
import Derived.Test.YtkafliflpplpeaaSimB3
import Derived.Test.YtkafliflpplpeaaSimC40
open Go.Proofs.Ytkafliflpplpeaa.Sim renaming Run_seq → Aa, Run_skip → Ab, Run_ret → Ac, Run_exit → Ad, Run_block → Ae, run_cond → Af, run_region → Ag, run_loop → Ah, condR_true → Ai, condR_false → Aj, regR_some → Ak, regT_some → Al, trim_nil → Am, trim_rows → Ao, trim_map → Ap, thenR_norm → Aq, thenR_ret → Ar, thenR_exit → Au, thenR_none → Av, blockR_norm → Aw, blockR_ret → Ay, blockR_exit → Az, finR_norm → Ba, finR_ret → Bb, outR_some → Bc, result_one → Bd, result_two → Be, result_three → Bf, outable_tup2 → Bg, outable_tup3 → Bh, outElem_int → Bi, outElem_bool → Bj, outElem_str → Bk, outElem_list → Bl, outElem_agg → Bm, outElem_own → Bn, outElem_ptr → Bo, outElem_nilp → Bp, resV_t → Bq, resV_cell → Br, ops_nil → Bs, ops_cons → Bt, ops_guard → Bv, onV_some → Bw, onR_some → Bx, onC_some → Bz, onG_bool → Ca, onG_skip → Cb, onB_var → Cc, onB_new → Cd, op_move → Ce, op_pick → Cf, op_bin → Cg, op_eqv → Ch, op_un → Ci, op_conv → Cj, op_alloc_var → Ck, op_alloc → Cl, op_box → Cm, op_build → Cn, op_lit → Co, op_load → Cp, op_store → Cq, op_nilchk → Cr, op_mkfn → Cs, op_mksl → Ct, op_slice → Cu, op_aslice → Cv, op_faddr → Cw, op_field → Cy, op_iaddr → Cz, op_aaddr → Da, op_index → Db, op_indexS → Dc, op_extract → De, op_len → Df, op_lenc → Dg, op_append → Dh, op_mm → Di, op_b2s → Dj, op_s2b → Dk, b2sV_list → Dl, s2bS_str → Dm, bytesS_one → Dn, put_some → Dp, put_none → Dq, getF_hit → Dr, getF_cons → Dt, ev_t → Du, ev_c → Dv, evs_nil → Dw, evs_cons → Dx, evp_nil → Dy, evp_cons → Dz, evq_nil → Ea, evq_cons → Eb, evo_none → Ec, evo_some → Ed, keep_mk → Ee, keepF_nil → Ef, keepF_cons → Eg, keep1_int → Eh, keep1_bool → Ei, keep1_str → Ej, keep1_list → Ek, keep1_own → El, keep1_ptr → Em, keep1_agg → Eo, keep1_tup → Ep, keep1_fn → Er, keep1_any → Es, keep1_skip → Et, keep1_nilp → Eu, keep1_nilf → Ev, keep1_rptr → Ew, keep1_loc → Ey, keepV_nil → Ez, keepV_cons → Fa, keepVc_some → Fb, keepVc_none → Fc, getV_nil → Fe, getV_cons → Ff, setV_nil → Fg, setV_cons → Fh, forgetF_nil → Fj, forgetF_cons → Fl, forget1_int → Fm, forget1_bool → Fp, forget1_str → Fq, forget1_list → Fs, forget1_own → Ft, forget1_ptr → Fu, forget1_agg → Fv, forget1_tup → Fw, forget1_fn → Fx, forget1_any → Fy, forget1_skip → Fz, forget1_nilp → Ga, forget1_nilf → Gb, forget1_rptr → Gc, forget1_loc → Gd, wrs_nil → Ge, wrs_cons → Gf, wr_v → Gg, wr_h → Gh, argsF_nil → Gi, argsF_cons → Gj, binS_add → Gk, binS_sub → Gl, binS_mul → Gm, binS_quo → Gn, binS_rem → Gp, binS_and → Gq, binS_or → Gr, binS_xor → Gs, binS_shl → Gt, binS_shr → Gu, binS_lss → Gv, binS_leq → Gw, binS_gtr → Gx, binS_geq → Gy, binS_eql → Gz, binS_neq → Ha, convS_int → Hb, unS_not → Hc, pickS_true → Hd, pickS_false → He, outable_int → Hf, outable_bool → Hg, outable_str → Hh, outable_list → Hj, outable_agg → Hk, outable_own → Hl, backR_some → Hm, goD_some → Hn, mapO_nil → Ho, mapO_cons → Hq, consO_some → Hr, snapA_int → Hs, snapA_bool → Ht, snapA_str → Hu, snapA_list → Hv, snapA_agg → Hw, aggO_some → Hy, tupO_some → Hz, snapR_int → Ia, snapR_bool → Ib, snapR_str → Ic, snapR_agg → Ie, snapR_tup → Ig, snapR_list → Ih, rowBy_int → Ii, rowBy_bool → Ij, rowBy_str → Ik, rowBy_list → Il, rowBy_own → Im, rowBy_agg → Io, snapC_int → Ip, snapC_bool → Iq, snapC_str → Ir, snapC_list → Iu, snapC_own → Iv, snapA_own → Iw, snapR_own → Iy, loadV_loc → Iz, loadL_row → Ja, mk_one → Jb, mk_agg → Jc, mk_single → Jd, cells_agg → Je, cells_int → Jf, cells_bool → Jg, cells_str → Jh, cells_list → Ji, cells_own → Jj, cells_fn → Jk, cells_ptr → Jl, cells_nilp → Jm, okv_int → Jn, okv_bool → Jo, okv_str → Jp, okv_list → Jq, okv_own → Jr, okv_fn → Js, okv_ptr → Jt, okv_nilp → Ju, loadV_rptr → Jv, loadV_ptr → Jw, loadP_at → Jy, mkO_some → Jz, cellsAt_eq → Ka, rowCells_some → Kb, storeAt_eq → Kc, setRow_some → Ke, storeO_some → Kf, storeP_at → Kg, storeR_loc → Kh, storeL_row → Ki, storeR_ptr → Kj, rechunk_nil → Kk, rechunk_cons → Kl, reshape_agg → Km, reshape_int → Kn, reshape_bool → Ko, reshape_str → Kq, reshape_list → Kr, reshape_own → Ks, boxS_eq → Kt, chunks_zero → Ku, chunks_one → Kv, row1_one → Kw, row1_two → Kx, buildS_nil → Ky, buildS_cons → Kz, faddrS_loc → La, faddrS_ptr → Lb, faddrS_rptr → Lc, nilS_loc → Ld, nilS_ptr → Le, nilS_rptr → Lf, fieldS_agg → Lg, aaddrS_loc → Lh, aaddrS_rptr → Li, indexV_agg → Lj, lenS_str → Ll, lenS_list → Lm, lenS_own → Ln, extractS_tup → Lp, splice_end → Lr, splice_hit → Ls, splice_next → Lt, iaddrS_list → Lu, elemAt_some → Lv, iaddrS_own → Lw, elemP_row → Lx, strAt_str → Ly, byteAt_some → Ma, litS_eq → Mb, litO_some → Mc, fillL_nil → Md, fillL_cons → Me, lit1_int → Mf, lit1_bool → Mg, lit1_str → Mh, lit1_list → Mi, replicate_z → Mj, replicate_s → Mk
open List renaming contains_cons → Ml, contains_nil → Mm, length_cons → Mr, length_nil → Ms, all_cons → Mt, all_nil → Mu, take_succ_cons → My, take_zero → Mz, take_nil → Na, drop_succ_cons → Nb, drop_zero → Nc, set_cons_zero → Ni, set_cons_succ → Nj
open Nat renaming le_refl → Mx, zero_add → Nd, add_zero → Nf, mul_one → Ng, lt_add_one → Nq, zero_lt_succ → Nr
open Int renaming toNat_zero → Nh, cast_ofNat_Int → Nk, le_refl → Nl, toNat_natCast → Nn, natCast_nonneg → Np
open Bool renaming or_true → Mn, true_or → Mo, or_false → Mp, false_or → Mq, and_true → Mv, and_self → Mw
namespace Go.Proofs.Ytkafliflpplpeaa.Sim
set_option linter.unusedSimpArgs false
set_option linter.unusedVariables false
open Go
set_option maxRecDepth 100000
set_option linter.unusedSimpArgs false

def rol (x : Int) (n : Nat) : Int := ibit .or .u32 (ishl .u32 x n) (ishr .u32 x (32 - n))

theorem d_rot {E : Env} (h25 : E 25 = some (.code c25)) (x : Int) (n : Nat) (hn : n < 32) (hp : Hp) : deepE E (Call E) 25 [.int .u32 x, .int .i64 n] hp = some (.int .u32 (rol x n)) := by
  rw [deep_code h25 rfl, deep_go]
  simp only [mapO_nil, mapO_cons, consO_some, snapA_int, goD_some]
  rw [Call_mk E h25 _ _ rfl]
  have h1 : ibit .and .u64 (IntKind.u64.wrap n) 31 = n := by
    have : ∀ m < 32, ibit .and .u64 (IntKind.u64.wrap (m : Nat)) 31 = (m : Nat) := by decide
    exact this n hn
  have h2 : IntKind.u64.wrap (32 - (n : Int)) = ((32 - n : Nat) : Int) := by
    have : ∀ m < 32, IntKind.u64.wrap (32 - ((m : Nat) : Int)) = ((32 - m : Nat) : Int) := by decide
    exact this n hn
  have h3 : ¬ ((n : Int) < 0) := by omega
  have h4 : ¬ (((32 - n : Nat) : Int) < 0) := by omega
  simp only [Aa, Ab, Ac, Ad, Ae, Af, Ag, Ah, Ai, Aj, Ak, Al, Am, Ao, Ap, Aq, Ar, Au, Av, Aw, Ay, Az, Ba, Bb, Bc, Bd, Be, Bf, Bg, Bh, Bi, Bj, Bk, Bl, Bm, Bn, Bo, Bp, Bq, Br, Bs, Bt, Bv, Bw, Bx, Bz, Ca, Cb, Cc, Cd, Ce, Cf, Cg, Ch, Ci, Cj, Ck, Cl, Cm, Cn, Co, Cp, Cq, Cr, Cs, Ct, Cu, Cv, Cw, Cy, Cz, Da, Db, Dc, De, Df, Dg, Dh, Di, Dj, Dk, Dl, Dm, Dn, Option.map_some, Dp, Dq, Dr, Dt, Du, Dv, Dw, Dx, Dy, Dz, Ea, Eb, Ec, Ed, Ee, Ef, Eg, Eh, Ei, Ej, Ek, El, Em, Eo, Ep, Er, Es, Et, Eu, Ev, Ew, Ey, Ez, Fa, Fb, Fc, Fe, Ff, Fg, Fh, Fj, Fl, Fm, Fp, Fq, Fs, Ft, Fu, Fv, Fw, Fx, Fy, Fz, Ga, Gb, Gc, Gd, Ge, Gf, Gg, Gh, Gi, Gj, Nat.reduceEqDiff, Nat.reduceAdd, Nat.reduceMul, Nat.reduceLT, Nat.reduceLeDiff, ↓reduceIte, Ml, Mm, Nat.reduceBEq, Mn, Mo, Mp, Mq, reduceCtorEq, Mr, Ms, Gk, Gl, Gm, Gn, Gp, Gq, Gr, Gs, Gt, Gu, Gv, Gw, Gx, Gy, Gz, Ha, Hb, Hc, Hd, He, Hf, Hg, Hh, Hj, Hk, Hl, Hm, Hn, Ho, Hq, Hr, Hs, Ht, Hu, Hv, Hw, Hy, Hz, Ia, Ib, Ic, Ie, Ig, Ih, Ii, Ij, Ik, Il, Im, Io, Ip, Iq, Ir, Iu, Iv, Iw, Iy, Iz, Ja, Jb, Jc, Jd, Je, Jf, Jg, Jh, Ji, Jj, Jk, Jl, Jm, Jn, Jo, Jp, Jq, Jr, Js, Jt, Ju, Jv, Jw, Jy, Jz, Ka, Kb, Kc, Ke, Kf, Kg, Kh, Ki, Kj, Kk, Kl, Km, Kn, Ko, Kq, Kr, Ks, Kt, Ku, Kv, Kw, Kx, Ky, Kz, La, Lb, Lc, Ld, Le, Lf, Lg, Lh, Li, Lj, Ll, Lm, Ln, Lp, and_self, true_and, and_true, Mt, Mu, Mv, Mw, Mx, My, Mz, Na, Nb, Nc, Nd, Nf, Ng, Nh, Int.reduceToNat, Int.reduceLT, Int.reduceEq, Int.reduceLE, List.getElem?_cons_zero, List.getElem?_cons_succ, Lr, Ls, Lt, Ni, Nj, Nk, Nl, gt_iff_lt, ge_iff_le, Lu, Lv, Lw, Lx, Ly, Ma, Nn, Np, Mb, Mc, Md, Me, Mf, Mg, Mh, Mi, Mj, Mk, Nq, Nr, h1, h2, h3, h4, Int.toNat_natCast, rol]

theorem d_rot5 {E : Env} (h25 : E 25 = some (.code c25)) (x : Int) (hp : Hp) : deepE E (Call E) 25 [.int .u32 x, .int .i64 5] hp = some (.int .u32 (rol x 5)) := d_rot h25 x 5 (by decide) hp
theorem d_rot7 {E : Env} (h25 : E 25 = some (.code c25)) (x : Int) (hp : Hp) : deepE E (Call E) 25 [.int .u32 x, .int .i64 7] hp = some (.int .u32 (rol x 7)) := d_rot h25 x 7 (by decide) hp
theorem d_rot8 {E : Env} (h25 : E 25 = some (.code c25)) (x : Int) (hp : Hp) : deepE E (Call E) 25 [.int .u32 x, .int .i64 8] hp = some (.int .u32 (rol x 8)) := d_rot h25 x 8 (by decide) hp
theorem d_rot13 {E : Env} (h25 : E 25 = some (.code c25)) (x : Int) (hp : Hp) : deepE E (Call E) 25 [.int .u32 x, .int .i64 13] hp = some (.int .u32 (rol x 13)) := d_rot h25 x 13 (by decide) hp
theorem d_rot16 {E : Env} (h25 : E 25 = some (.code c25)) (x : Int) (hp : Hp) : deepE E (Call E) 25 [.int .u32 x, .int .i64 16] hp = some (.int .u32 (rol x 16)) := d_rot h25 x 16 (by decide) hp

/-- Four words. -/
structure Q where
  a : Int
  b : Int
  c : Int
  d : Int

def Q.s (q : Q) : S := .agg [.int .u32 q.a, .int .u32 q.b, .int .u32 q.c, .int .u32 q.d]

def w32 (x : Int) : Int := IntKind.u32.wrap x
def x32 (x y : Int) : Int := ibit .xor .u32 x y

/-- One round. -/
def rnd (q : Q) : Q :=
  let a := w32 (q.a + q.b)
  let b := x32 (rol q.b 5) a
  let a := rol a 16
  let c := w32 (q.c + q.d)
  let d := x32 (rol q.d 8) c
  let a := w32 (a + d)
  let d := x32 (rol d 13) a
  let c := w32 (c + b)
  let b := x32 (rol b 7) c
  let c := rol c 16
  ⟨a, b, c, d⟩

def rnds : Nat → Q → Q
  | 0, q => q
  | n + 1, q => rnds n (rnd q)

def perm (q : Q) : Q := rnds 12 q

theorem loop9 {E : Env} (h25 : E 25 = some (.code c25)) (vars : Vars) (b : Blk) (hv : vars = [(2, b)]) : ∀ (n : Nat) (i : Int) (q : Q), 0 ≤ i → i + n = 12 →
    blockR 0 [2, 3, 4, 5, 6] (loopR E [2, 3, 4, 5, 6, 15] l9_0 ⟨[(2, .loc 2 0), (3, .int .u32 q.a), (4, .int .u32 q.b), (5, .int .u32 q.c), (6, .int .u32 q.d), (15, .int .i64 i)], vars, []⟩) =
      some (.norm, ⟨[(2, .loc 2 0), (3, .int .u32 (rnds n q).a), (4, .int .u32 (rnds n q).b), (5, .int .u32 (rnds n q).c), (6, .int .u32 (rnds n q).d)], vars, []⟩)
  | 0, i, q, hi, h => by
    subst hv
    have h1 : ¬ i < 12 := by omega
    rw [loopR, l9_0]
    simp only [Aa, Ab, Ac, Ad, Ae, Af, Ag, Ah, Ai, Aj, Ak, Al, Am, Ao, Ap, Aq, Ar, Au, Av, Aw, Ay, Az, Ba, Bb, Bc, Bd, Be, Bf, Bg, Bh, Bi, Bj, Bk, Bl, Bm, Bn, Bo, Bp, Bq, Br, Bs, Bt, Bv, Bw, Bx, Bz, Ca, Cb, Cc, Cd, Ce, Cf, Cg, Ch, Ci, Cj, Ck, Cl, Cm, Cn, Co, Cp, Cq, Cr, Cs, Ct, Cu, Cv, Cw, Cy, Cz, Da, Db, Dc, De, Df, Dg, Dh, Di, Dj, Dk, Dl, Dm, Dn, Option.map_some, Dp, Dq, Dr, Dt, Du, Dv, Dw, Dx, Dy, Dz, Ea, Eb, Ec, Ed, Ee, Ef, Eg, Eh, Ei, Ej, Ek, El, Em, Eo, Ep, Er, Es, Et, Eu, Ev, Ew, Ey, Ez, Fa, Fb, Fc, Fe, Ff, Fg, Fh, Fj, Fl, Fm, Fp, Fq, Fs, Ft, Fu, Fv, Fw, Fx, Fy, Fz, Ga, Gb, Gc, Gd, Ge, Gf, Gg, Gh, Gi, Gj, Nat.reduceEqDiff, Nat.reduceAdd, Nat.reduceMul, Nat.reduceLT, Nat.reduceLeDiff, ↓reduceIte, Ml, Mm, Nat.reduceBEq, Mn, Mo, Mp, Mq, reduceCtorEq, Mr, Ms, Gk, Gl, Gm, Gn, Gp, Gq, Gr, Gs, Gt, Gu, Gv, Gw, Gx, Gy, Gz, Ha, Hb, Hc, Hd, He, Hf, Hg, Hh, Hj, Hk, Hl, Hm, Hn, Ho, Hq, Hr, Hs, Ht, Hu, Hv, Hw, Hy, Hz, Ia, Ib, Ic, Ie, Ig, Ih, Ii, Ij, Ik, Il, Im, Io, Ip, Iq, Ir, Iu, Iv, Iw, Iy, Iz, Ja, Jb, Jc, Jd, Je, Jf, Jg, Jh, Ji, Jj, Jk, Jl, Jm, Jn, Jo, Jp, Jq, Jr, Js, Jt, Ju, Jv, Jw, Jy, Jz, Ka, Kb, Kc, Ke, Kf, Kg, Kh, Ki, Kj, Kk, Kl, Km, Kn, Ko, Kq, Kr, Ks, Kt, Ku, Kv, Kw, Kx, Ky, Kz, La, Lb, Lc, Ld, Le, Lf, Lg, Lh, Li, Lj, Ll, Lm, Ln, Lp, and_self, true_and, and_true, Mt, Mu, Mv, Mw, Mx, My, Mz, Na, Nb, Nc, Nd, Nf, Ng, Nh, Int.reduceToNat, Int.reduceLT, Int.reduceEq, Int.reduceLE, List.getElem?_cons_zero, List.getElem?_cons_succ, Lr, Ls, Lt, Ni, Nj, Nk, Nl, gt_iff_lt, ge_iff_le, Lu, Lv, Lw, Lx, Ly, Ma, Nn, Np, Mb, Mc, Md, Me, Mf, Mg, Mh, Mi, Mj, Mk, Nq, Nr, h1, decide_false, rnds]
  | n + 1, i, q, hi, h => by
    have ih := loop9 h25 vars b hv n (i + 1) (rnd q) (by omega) (by omega)
    subst hv
    have h1 : i < 12 := by omega
    have h2 : IntKind.i64.wrap (i + 1) = i + 1 := wrap_i64 (by omega) (by omega)
    rw [loopR]
    conv => lhs; arg 3; arg 1; rw [l9_0]
    simp only [Aa, Ab, Ac, Ad, Ae, Af, Ag, Ah, Ai, Aj, Ak, Al, Am, Ao, Ap, Aq, Ar, Au, Av, Aw, Ay, Az, Ba, Bb, Bc, Bd, Be, Bf, Bg, Bh, Bi, Bj, Bk, Bl, Bm, Bn, Bo, Bp, Bq, Br, Bs, Bt, Bv, Bw, Bx, Bz, Ca, Cb, Cc, Cd, Ce, Cf, Cg, Ch, Ci, Cj, Ck, Cl, Cm, Cn, Co, Cp, Cq, Cr, Cs, Ct, Cu, Cv, Cw, Cy, Cz, Da, Db, Dc, De, Df, Dg, Dh, Di, Dj, Dk, Dl, Dm, Dn, Option.map_some, Dp, Dq, Dr, Dt, Du, Dv, Dw, Dx, Dy, Dz, Ea, Eb, Ec, Ed, Ee, Ef, Eg, Eh, Ei, Ej, Ek, El, Em, Eo, Ep, Er, Es, Et, Eu, Ev, Ew, Ey, Ez, Fa, Fb, Fc, Fe, Ff, Fg, Fh, Fj, Fl, Fm, Fp, Fq, Fs, Ft, Fu, Fv, Fw, Fx, Fy, Fz, Ga, Gb, Gc, Gd, Ge, Gf, Gg, Gh, Gi, Gj, Nat.reduceEqDiff, Nat.reduceAdd, Nat.reduceMul, Nat.reduceLT, Nat.reduceLeDiff, ↓reduceIte, Ml, Mm, Nat.reduceBEq, Mn, Mo, Mp, Mq, reduceCtorEq, Mr, Ms, Gk, Gl, Gm, Gn, Gp, Gq, Gr, Gs, Gt, Gu, Gv, Gw, Gx, Gy, Gz, Ha, Hb, Hc, Hd, He, Hf, Hg, Hh, Hj, Hk, Hl, Hm, Hn, Ho, Hq, Hr, Hs, Ht, Hu, Hv, Hw, Hy, Hz, Ia, Ib, Ic, Ie, Ig, Ih, Ii, Ij, Ik, Il, Im, Io, Ip, Iq, Ir, Iu, Iv, Iw, Iy, Iz, Ja, Jb, Jc, Jd, Je, Jf, Jg, Jh, Ji, Jj, Jk, Jl, Jm, Jn, Jo, Jp, Jq, Jr, Js, Jt, Ju, Jv, Jw, Jy, Jz, Ka, Kb, Kc, Ke, Kf, Kg, Kh, Ki, Kj, Kk, Kl, Km, Kn, Ko, Kq, Kr, Ks, Kt, Ku, Kv, Kw, Kx, Ky, Kz, La, Lb, Lc, Ld, Le, Lf, Lg, Lh, Li, Lj, Ll, Lm, Ln, Lp, and_self, true_and, and_true, Mt, Mu, Mv, Mw, Mx, My, Mz, Na, Nb, Nc, Nd, Nf, Ng, Nh, Int.reduceToNat, Int.reduceLT, Int.reduceEq, Int.reduceLE, List.getElem?_cons_zero, List.getElem?_cons_succ, Lr, Ls, Lt, Ni, Nj, Nk, Nl, gt_iff_lt, ge_iff_le, Lu, Lv, Lw, Lx, Ly, Ma, Nn, Np, Mb, Mc, Md, Me, Mf, Mg, Mh, Mi, Mj, Mk, Nq, Nr, h1, decide_true, op_call_deep _ _ h25 rfl, d_rot5 h25, d_rot7 h25, d_rot8 h25, d_rot13 h25, d_rot16 h25, h2]
    exact ih

theorem d_permute {E : Env} (h25 : E 25 = some (.code c25)) (h9 : E 9 = some (.code c9)) (q : Q) (hp : Hp) : deepE E (Call E) 9 [q.s] hp = some (perm q).s := by
  rw [deep_code h9 rfl, deep_go]
  simp only [Q.s, mapO_nil, mapO_cons, consO_some, snapA_agg, snapC_int, aggO_some, goD_some]
  rw [Call_mk E h9 _ _ rfl]
  have hd : deepB E 25 = true := deepB_code h25 rfl
  simp only [Aa, Ab, Ac, Ad, Ae, Af, Ag, Ah, Ai, Aj, Ak, Al, Am, Ao, Ap, Aq, Ar, Au, Av, Aw, Ay, Az, Ba, Bb, Bc, Bd, Be, Bf, Bg, Bh, Bi, Bj, Bk, Bl, Bm, Bn, Bo, Bp, Bq, Br, Bs, Bt, Bv, Bw, Bx, Bz, Ca, Cb, Cc, Cd, Ce, Cf, Cg, Ch, Ci, Cj, Ck, Cl, Cm, Cn, Co, Cp, Cq, Cr, Cs, Ct, Cu, Cv, Cw, Cy, Cz, Da, Db, Dc, De, Df, Dg, Dh, Di, Dj, Dk, Dl, Dm, Dn, Option.map_some, Dp, Dq, Dr, Dt, Du, Dv, Dw, Dx, Dy, Dz, Ea, Eb, Ec, Ed, Ee, Ef, Eg, Eh, Ei, Ej, Ek, El, Em, Eo, Ep, Er, Es, Et, Eu, Ev, Ew, Ey, Ez, Fa, Fb, Fc, Fe, Ff, Fg, Fh, Fj, Fl, Fm, Fp, Fq, Fs, Ft, Fu, Fv, Fw, Fx, Fy, Fz, Ga, Gb, Gc, Gd, Ge, Gf, Gg, Gh, Gi, Gj, Nat.reduceEqDiff, Nat.reduceAdd, Nat.reduceMul, Nat.reduceLT, Nat.reduceLeDiff, ↓reduceIte, Ml, Mm, Nat.reduceBEq, Mn, Mo, Mp, Mq, reduceCtorEq, Mr, Ms, Gk, Gl, Gm, Gn, Gp, Gq, Gr, Gs, Gt, Gu, Gv, Gw, Gx, Gy, Gz, Ha, Hb, Hc, Hd, He, Hf, Hg, Hh, Hj, Hk, Hl, Hm, Hn, Ho, Hq, Hr, Hs, Ht, Hu, Hv, Hw, Hy, Hz, Ia, Ib, Ic, Ie, Ig, Ih, Ii, Ij, Ik, Il, Im, Io, Ip, Iq, Ir, Iu, Iv, Iw, Iy, Iz, Ja, Jb, Jc, Jd, Je, Jf, Jg, Jh, Ji, Jj, Jk, Jl, Jm, Jn, Jo, Jp, Jq, Jr, Js, Jt, Ju, Jv, Jw, Jy, Jz, Ka, Kb, Kc, Ke, Kf, Kg, Kh, Ki, Kj, Kk, Kl, Km, Kn, Ko, Kq, Kr, Ks, Kt, Ku, Kv, Kw, Kx, Ky, Kz, La, Lb, Lc, Ld, Le, Lf, Lg, Lh, Li, Lj, Ll, Lm, Ln, Lp, and_self, true_and, and_true, Mt, Mu, Mv, Mw, Mx, My, Mz, Na, Nb, Nc, Nd, Nf, Ng, Nh, Int.reduceToNat, Int.reduceLT, Int.reduceEq, Int.reduceLE, List.getElem?_cons_zero, List.getElem?_cons_succ, Lr, Ls, Lt, Ni, Nj, Nk, Nl, gt_iff_lt, ge_iff_le, Lu, Lv, Lw, Lx, Ly, Ma, Nn, Np, Mb, Mc, Md, Me, Mf, Mg, Mh, Mi, Mj, Mk, Nq, Nr, rd9_0, d9_0]
  rw [loop9 h25 _ _ rfl 12 0 q (by decide) (by decide)]
  simp only [Aa, Ab, Ac, Ad, Ae, Af, Ag, Ah, Ai, Aj, Ak, Al, Am, Ao, Ap, Aq, Ar, Au, Av, Aw, Ay, Az, Ba, Bb, Bc, Bd, Be, Bf, Bg, Bh, Bi, Bj, Bk, Bl, Bm, Bn, Bo, Bp, Bq, Br, Bs, Bt, Bv, Bw, Bx, Bz, Ca, Cb, Cc, Cd, Ce, Cf, Cg, Ch, Ci, Cj, Ck, Cl, Cm, Cn, Co, Cp, Cq, Cr, Cs, Ct, Cu, Cv, Cw, Cy, Cz, Da, Db, Dc, De, Df, Dg, Dh, Di, Dj, Dk, Dl, Dm, Dn, Option.map_some, Dp, Dq, Dr, Dt, Du, Dv, Dw, Dx, Dy, Dz, Ea, Eb, Ec, Ed, Ee, Ef, Eg, Eh, Ei, Ej, Ek, El, Em, Eo, Ep, Er, Es, Et, Eu, Ev, Ew, Ey, Ez, Fa, Fb, Fc, Fe, Ff, Fg, Fh, Fj, Fl, Fm, Fp, Fq, Fs, Ft, Fu, Fv, Fw, Fx, Fy, Fz, Ga, Gb, Gc, Gd, Ge, Gf, Gg, Gh, Gi, Gj, Nat.reduceEqDiff, Nat.reduceAdd, Nat.reduceMul, Nat.reduceLT, Nat.reduceLeDiff, ↓reduceIte, Ml, Mm, Nat.reduceBEq, Mn, Mo, Mp, Mq, reduceCtorEq, Mr, Ms, Gk, Gl, Gm, Gn, Gp, Gq, Gr, Gs, Gt, Gu, Gv, Gw, Gx, Gy, Gz, Ha, Hb, Hc, Hd, He, Hf, Hg, Hh, Hj, Hk, Hl, Hm, Hn, Ho, Hq, Hr, Hs, Ht, Hu, Hv, Hw, Hy, Hz, Ia, Ib, Ic, Ie, Ig, Ih, Ii, Ij, Ik, Il, Im, Io, Ip, Iq, Ir, Iu, Iv, Iw, Iy, Iz, Ja, Jb, Jc, Jd, Je, Jf, Jg, Jh, Ji, Jj, Jk, Jl, Jm, Jn, Jo, Jp, Jq, Jr, Js, Jt, Ju, Jv, Jw, Jy, Jz, Ka, Kb, Kc, Ke, Kf, Kg, Kh, Ki, Kj, Kk, Kl, Km, Kn, Ko, Kq, Kr, Ks, Kt, Ku, Kv, Kw, Kx, Ky, Kz, La, Lb, Lc, Ld, Le, Lf, Lg, Lh, Li, Lj, Ll, Lm, Ln, Lp, and_self, true_and, and_true, Mt, Mu, Mv, Mw, Mx, My, Mz, Na, Nb, Nc, Nd, Nf, Ng, Nh, Int.reduceToNat, Int.reduceLT, Int.reduceEq, Int.reduceLE, List.getElem?_cons_zero, List.getElem?_cons_succ, Lr, Ls, Lt, Ni, Nj, Nk, Nl, gt_iff_lt, ge_iff_le, Lu, Lv, Lw, Lx, Ly, Ma, Nn, Np, Mb, Mc, Md, Me, Mf, Mg, Mh, Mi, Mj, Mk, Nq, Nr, perm]

theorem d_perm9 {E : Env} (h25 : E 25 = some (.code c25)) (h9 : E 9 = some (.code c9)) (a b c d : Int) (hp : Hp) : deepE E (Call E) 9 [.agg [.int .u32 a, .int .u32 b, .int .u32 c, .int .u32 d]] hp = some (perm ⟨a, b, c, d⟩).s := d_permute h25 h9 ⟨a, b, c, d⟩ hp

end Go.Proofs.Ytkafliflpplpeaa.Sim
namespace Go.Proofs.Ytkafliflpplpeaa.Sim
set_option linter.unusedSimpArgs false
set_option linter.unusedVariables false
open Go
set_option maxRecDepth 100000
set_option linter.unusedSimpArgs false

def u32s (l : List Int) : List S := l.map (.int .u32)

theorem u32s_len (l : List Int) : (u32s l).length = l.length := by simp [u32s]
theorem u32s_get {l : List Int} {k : Nat} {x : Int} (h : l[k]? = some x) : (u32s l)[k]? = some (.int .u32 x) := by simp [u32s, h]

/-- Two words taken in. -/
def take2 (x y : Int) (q : Q) : Q :=
  let p := perm ⟨x32 q.a x, x32 q.b y, q.c, q.d⟩
  ⟨p.a, p.b, x32 p.c x, x32 p.d y⟩

def wloop : List Int → Q → Q
  | [], q => q
  | [x], q => take2 x 0 q
  | x :: y :: r, q => wloop r (take2 x y q)

def words (t : Int) (l : List Int) : Q :=
  let q := wloop l ⟨1702391089, 1651466610, t, w32 l.length⟩
  perm (perm ⟨q.a, q.b, x32 q.c 4294967295, q.d⟩)

theorem loop14 {E : Env} (h25 : E 25 = some (.code c25)) (h9 : E 9 = some (.code c9)) (f p : Bool) (l : List Int) (hl : l.length ≤ 140737488351232) (b4 : Blk) : ∀ (n k : Nat) (q : Q), l.length ≤ k + n →
    blockR 0 [4, 5] (loopR E [1, 4, 5, 6] l14_0 ⟨[(1, .list f p (u32s l)), (4, .loc 4 0), (5, .loc 5 0), (6, .int .i64 k)], [(4, b4), (5, .rows false 4 [q.s])], []⟩) =
      some (.norm, ⟨[(4, .loc 4 0), (5, .loc 5 0)], [(4, b4), (5, .rows false 4 [(wloop (l.drop k) q).s])], []⟩) := by
  intro n
  induction n with
  | zero =>
    intro k q hk
    have h1 : ¬ (k : Int) < (l.length : Int) := by omega
    rw [loopR]
    conv => lhs; arg 3; arg 1; rw [l14_0]
    simp only [Aa, Ab, Ac, Ad, Ae, Af, Ag, Ah, Ai, Aj, Ak, Al, Am, Ao, Ap, Aq, Ar, Au, Av, Aw, Ay, Az, Ba, Bb, Bc, Bd, Be, Bf, Bg, Bh, Bi, Bj, Bk, Bl, Bm, Bn, Bo, Bp, Bq, Br, Bs, Bt, Bv, Bw, Bx, Bz, Ca, Cb, Cc, Cd, Ce, Cf, Cg, Ch, Ci, Cj, Ck, Cl, Cm, Cn, Co, Cp, Cq, Cr, Cs, Ct, Cu, Cv, Cw, Cy, Cz, Da, Db, Dc, De, Df, Dg, Dh, Di, Dj, Dk, Dl, Dm, Dn, Option.map_some, Dp, Dq, Dr, Dt, Du, Dv, Dw, Dx, Dy, Dz, Ea, Eb, Ec, Ed, Ee, Ef, Eg, Eh, Ei, Ej, Ek, El, Em, Eo, Ep, Er, Es, Et, Eu, Ev, Ew, Ey, Ez, Fa, Fb, Fc, Fe, Ff, Fg, Fh, Fj, Fl, Fm, Fp, Fq, Fs, Ft, Fu, Fv, Fw, Fx, Fy, Fz, Ga, Gb, Gc, Gd, Ge, Gf, Gg, Gh, Gi, Gj, Nat.reduceEqDiff, Nat.reduceAdd, Nat.reduceMul, Nat.reduceLT, Nat.reduceLeDiff, ↓reduceIte, Ml, Mm, Nat.reduceBEq, Mn, Mo, Mp, Mq, reduceCtorEq, Mr, Ms, Gk, Gl, Gm, Gn, Gp, Gq, Gr, Gs, Gt, Gu, Gv, Gw, Gx, Gy, Gz, Ha, Hb, Hc, Hd, He, Hf, Hg, Hh, Hj, Hk, Hl, Hm, Hn, Ho, Hq, Hr, Hs, Ht, Hu, Hv, Hw, Hy, Hz, Ia, Ib, Ic, Ie, Ig, Ih, Ii, Ij, Ik, Il, Im, Io, Ip, Iq, Ir, Iu, Iv, Iw, Iy, Iz, Ja, Jb, Jc, Jd, Je, Jf, Jg, Jh, Ji, Jj, Jk, Jl, Jm, Jn, Jo, Jp, Jq, Jr, Js, Jt, Ju, Jv, Jw, Jy, Jz, Ka, Kb, Kc, Ke, Kf, Kg, Kh, Ki, Kj, Kk, Kl, Km, Kn, Ko, Kq, Kr, Ks, Kt, Ku, Kv, Kw, Kx, Ky, Kz, La, Lb, Lc, Ld, Le, Lf, Lg, Lh, Li, Lj, Ll, Lm, Ln, Lp, and_self, true_and, and_true, Mt, Mu, Mv, Mw, Mx, My, Mz, Na, Nb, Nc, Nd, Nf, Ng, Nh, Int.reduceToNat, Int.reduceLT, Int.reduceEq, Int.reduceLE, List.getElem?_cons_zero, List.getElem?_cons_succ, Lr, Ls, Lt, Ni, Nj, Nk, Nl, gt_iff_lt, ge_iff_le, Lu, Lv, Lw, Lx, Ly, Ma, Nn, Np, Mb, Mc, Md, Me, Mf, Mg, Mh, Mi, Mj, Mk, Nq, Nr, u32s_len, h1, decide_false]
    rw [List.drop_eq_nil_of_le (by omega)]
    rfl
  | succ n ih =>
    intro k q hk
    by_cases h : k < l.length
    · have h1 : (k : Int) < (l.length : Int) := by omega
      have hx := u32s_get (List.getElem?_eq_getElem h)
      have hw1 : IntKind.i64.wrap ((k : Int) + 1) = ((k + 1 : Nat) : Int) := wrap_i64 (by omega) (by omega)
      have hw2 : IntKind.i64.wrap ((k : Int) + 2) = ((k + 2 : Nat) : Int) := wrap_i64 (by omega) (by omega)
      rw [loopR]
      conv => lhs; arg 3; arg 1; rw [l14_0]
      by_cases h' : k + 1 < l.length
      · have h2 : ((k + 1 : Nat) : Int) < (l.length : Int) := by omega
        have hy := u32s_get (List.getElem?_eq_getElem h')
        have ih' := ih (k + 2) (take2 l[k] l[k + 1] q) (by omega)
        rw [List.drop_eq_getElem_cons h, List.drop_eq_getElem_cons h', wloop]
        simp only [Aa, Ab, Ac, Ad, Ae, Af, Ag, Ah, Ai, Aj, Ak, Al, Am, Ao, Ap, Aq, Ar, Au, Av, Aw, Ay, Az, Ba, Bb, Bc, Bd, Be, Bf, Bg, Bh, Bi, Bj, Bk, Bl, Bm, Bn, Bo, Bp, Bq, Br, Bs, Bt, Bv, Bw, Bx, Bz, Ca, Cb, Cc, Cd, Ce, Cf, Cg, Ch, Ci, Cj, Ck, Cl, Cm, Cn, Co, Cp, Cq, Cr, Cs, Ct, Cu, Cv, Cw, Cy, Cz, Da, Db, Dc, De, Df, Dg, Dh, Di, Dj, Dk, Dl, Dm, Dn, Option.map_some, Dp, Dq, Dr, Dt, Du, Dv, Dw, Dx, Dy, Dz, Ea, Eb, Ec, Ed, Ee, Ef, Eg, Eh, Ei, Ej, Ek, El, Em, Eo, Ep, Er, Es, Et, Eu, Ev, Ew, Ey, Ez, Fa, Fb, Fc, Fe, Ff, Fg, Fh, Fj, Fl, Fm, Fp, Fq, Fs, Ft, Fu, Fv, Fw, Fx, Fy, Fz, Ga, Gb, Gc, Gd, Ge, Gf, Gg, Gh, Gi, Gj, Nat.reduceEqDiff, Nat.reduceAdd, Nat.reduceMul, Nat.reduceLT, Nat.reduceLeDiff, ↓reduceIte, Ml, Mm, Nat.reduceBEq, Mn, Mo, Mp, Mq, reduceCtorEq, Mr, Ms, Gk, Gl, Gm, Gn, Gp, Gq, Gr, Gs, Gt, Gu, Gv, Gw, Gx, Gy, Gz, Ha, Hb, Hc, Hd, He, Hf, Hg, Hh, Hj, Hk, Hl, Hm, Hn, Ho, Hq, Hr, Hs, Ht, Hu, Hv, Hw, Hy, Hz, Ia, Ib, Ic, Ie, Ig, Ih, Ii, Ij, Ik, Il, Im, Io, Ip, Iq, Ir, Iu, Iv, Iw, Iy, Iz, Ja, Jb, Jc, Jd, Je, Jf, Jg, Jh, Ji, Jj, Jk, Jl, Jm, Jn, Jo, Jp, Jq, Jr, Js, Jt, Ju, Jv, Jw, Jy, Jz, Ka, Kb, Kc, Ke, Kf, Kg, Kh, Ki, Kj, Kk, Kl, Km, Kn, Ko, Kq, Kr, Ks, Kt, Ku, Kv, Kw, Kx, Ky, Kz, La, Lb, Lc, Ld, Le, Lf, Lg, Lh, Li, Lj, Ll, Lm, Ln, Lp, and_self, true_and, and_true, Mt, Mu, Mv, Mw, Mx, My, Mz, Na, Nb, Nc, Nd, Nf, Ng, Nh, Int.reduceToNat, Int.reduceLT, Int.reduceEq, Int.reduceLE, List.getElem?_cons_zero, List.getElem?_cons_succ, Lr, Ls, Lt, Ni, Nj, Nk, Nl, gt_iff_lt, ge_iff_le, Lu, Lv, Lw, Lx, Ly, Ma, Nn, Np, Mb, Mc, Md, Me, Mf, Mg, Mh, Mi, Mj, Mk, Nq, Nr, u32s_len, h1, h2, decide_true, hx, hy, hw1, hw2, Q.s, op_call_deep _ _ h9 rfl, d_perm9 h25 h9]
        exact ih'
      · have h2 : ¬ ((k + 1 : Nat) : Int) < (l.length : Int) := by omega
        have ih' := ih (k + 2) (take2 l[k] 0 q) (by omega)
        rw [List.drop_eq_nil_of_le (by omega), wloop] at ih'
        rw [List.drop_eq_getElem_cons h, List.drop_eq_nil_of_le (by omega), wloop]
        simp only [Aa, Ab, Ac, Ad, Ae, Af, Ag, Ah, Ai, Aj, Ak, Al, Am, Ao, Ap, Aq, Ar, Au, Av, Aw, Ay, Az, Ba, Bb, Bc, Bd, Be, Bf, Bg, Bh, Bi, Bj, Bk, Bl, Bm, Bn, Bo, Bp, Bq, Br, Bs, Bt, Bv, Bw, Bx, Bz, Ca, Cb, Cc, Cd, Ce, Cf, Cg, Ch, Ci, Cj, Ck, Cl, Cm, Cn, Co, Cp, Cq, Cr, Cs, Ct, Cu, Cv, Cw, Cy, Cz, Da, Db, Dc, De, Df, Dg, Dh, Di, Dj, Dk, Dl, Dm, Dn, Option.map_some, Dp, Dq, Dr, Dt, Du, Dv, Dw, Dx, Dy, Dz, Ea, Eb, Ec, Ed, Ee, Ef, Eg, Eh, Ei, Ej, Ek, El, Em, Eo, Ep, Er, Es, Et, Eu, Ev, Ew, Ey, Ez, Fa, Fb, Fc, Fe, Ff, Fg, Fh, Fj, Fl, Fm, Fp, Fq, Fs, Ft, Fu, Fv, Fw, Fx, Fy, Fz, Ga, Gb, Gc, Gd, Ge, Gf, Gg, Gh, Gi, Gj, Nat.reduceEqDiff, Nat.reduceAdd, Nat.reduceMul, Nat.reduceLT, Nat.reduceLeDiff, ↓reduceIte, Ml, Mm, Nat.reduceBEq, Mn, Mo, Mp, Mq, reduceCtorEq, Mr, Ms, Gk, Gl, Gm, Gn, Gp, Gq, Gr, Gs, Gt, Gu, Gv, Gw, Gx, Gy, Gz, Ha, Hb, Hc, Hd, He, Hf, Hg, Hh, Hj, Hk, Hl, Hm, Hn, Ho, Hq, Hr, Hs, Ht, Hu, Hv, Hw, Hy, Hz, Ia, Ib, Ic, Ie, Ig, Ih, Ii, Ij, Ik, Il, Im, Io, Ip, Iq, Ir, Iu, Iv, Iw, Iy, Iz, Ja, Jb, Jc, Jd, Je, Jf, Jg, Jh, Ji, Jj, Jk, Jl, Jm, Jn, Jo, Jp, Jq, Jr, Js, Jt, Ju, Jv, Jw, Jy, Jz, Ka, Kb, Kc, Ke, Kf, Kg, Kh, Ki, Kj, Kk, Kl, Km, Kn, Ko, Kq, Kr, Ks, Kt, Ku, Kv, Kw, Kx, Ky, Kz, La, Lb, Lc, Ld, Le, Lf, Lg, Lh, Li, Lj, Ll, Lm, Ln, Lp, and_self, true_and, and_true, Mt, Mu, Mv, Mw, Mx, My, Mz, Na, Nb, Nc, Nd, Nf, Ng, Nh, Int.reduceToNat, Int.reduceLT, Int.reduceEq, Int.reduceLE, List.getElem?_cons_zero, List.getElem?_cons_succ, Lr, Ls, Lt, Ni, Nj, Nk, Nl, gt_iff_lt, ge_iff_le, Lu, Lv, Lw, Lx, Ly, Ma, Nn, Np, Mb, Mc, Md, Me, Mf, Mg, Mh, Mi, Mj, Mk, Nq, Nr, u32s_len, h1, h2, decide_true, decide_false, hx, hw1, hw2, Q.s, op_call_deep _ _ h9 rfl, d_perm9 h25 h9]
        exact ih'
    · have h1 : ¬ (k : Int) < (l.length : Int) := by omega
      rw [loopR]
      conv => lhs; arg 3; arg 1; rw [l14_0]
      simp only [Aa, Ab, Ac, Ad, Ae, Af, Ag, Ah, Ai, Aj, Ak, Al, Am, Ao, Ap, Aq, Ar, Au, Av, Aw, Ay, Az, Ba, Bb, Bc, Bd, Be, Bf, Bg, Bh, Bi, Bj, Bk, Bl, Bm, Bn, Bo, Bp, Bq, Br, Bs, Bt, Bv, Bw, Bx, Bz, Ca, Cb, Cc, Cd, Ce, Cf, Cg, Ch, Ci, Cj, Ck, Cl, Cm, Cn, Co, Cp, Cq, Cr, Cs, Ct, Cu, Cv, Cw, Cy, Cz, Da, Db, Dc, De, Df, Dg, Dh, Di, Dj, Dk, Dl, Dm, Dn, Option.map_some, Dp, Dq, Dr, Dt, Du, Dv, Dw, Dx, Dy, Dz, Ea, Eb, Ec, Ed, Ee, Ef, Eg, Eh, Ei, Ej, Ek, El, Em, Eo, Ep, Er, Es, Et, Eu, Ev, Ew, Ey, Ez, Fa, Fb, Fc, Fe, Ff, Fg, Fh, Fj, Fl, Fm, Fp, Fq, Fs, Ft, Fu, Fv, Fw, Fx, Fy, Fz, Ga, Gb, Gc, Gd, Ge, Gf, Gg, Gh, Gi, Gj, Nat.reduceEqDiff, Nat.reduceAdd, Nat.reduceMul, Nat.reduceLT, Nat.reduceLeDiff, ↓reduceIte, Ml, Mm, Nat.reduceBEq, Mn, Mo, Mp, Mq, reduceCtorEq, Mr, Ms, Gk, Gl, Gm, Gn, Gp, Gq, Gr, Gs, Gt, Gu, Gv, Gw, Gx, Gy, Gz, Ha, Hb, Hc, Hd, He, Hf, Hg, Hh, Hj, Hk, Hl, Hm, Hn, Ho, Hq, Hr, Hs, Ht, Hu, Hv, Hw, Hy, Hz, Ia, Ib, Ic, Ie, Ig, Ih, Ii, Ij, Ik, Il, Im, Io, Ip, Iq, Ir, Iu, Iv, Iw, Iy, Iz, Ja, Jb, Jc, Jd, Je, Jf, Jg, Jh, Ji, Jj, Jk, Jl, Jm, Jn, Jo, Jp, Jq, Jr, Js, Jt, Ju, Jv, Jw, Jy, Jz, Ka, Kb, Kc, Ke, Kf, Kg, Kh, Ki, Kj, Kk, Kl, Km, Kn, Ko, Kq, Kr, Ks, Kt, Ku, Kv, Kw, Kx, Ky, Kz, La, Lb, Lc, Ld, Le, Lf, Lg, Lh, Li, Lj, Ll, Lm, Ln, Lp, and_self, true_and, and_true, Mt, Mu, Mv, Mw, Mx, My, Mz, Na, Nb, Nc, Nd, Nf, Ng, Nh, Int.reduceToNat, Int.reduceLT, Int.reduceEq, Int.reduceLE, List.getElem?_cons_zero, List.getElem?_cons_succ, Lr, Ls, Lt, Ni, Nj, Nk, Nl, gt_iff_lt, ge_iff_le, Lu, Lv, Lw, Lx, Ly, Ma, Nn, Np, Mb, Mc, Md, Me, Mf, Mg, Mh, Mi, Mj, Mk, Nq, Nr, u32s_len, h1, decide_false]
      rw [List.drop_eq_nil_of_le (by omega)]
      rfl

theorem d_words14 {E : Env} (h25 : E 25 = some (.code c25)) (h9 : E 9 = some (.code c9)) (h14 : E 14 = some (.code c14)) (t : Int) (f p : Bool) (l : List Int) (hl : l.length ≤ 140737488351232) (hp : Hp) :
    deepE E (Call E) 14 [.int .u32 t, .list f p (u32s l)] hp = some (words t l).s := by
  rw [deep_code h14 rfl, deep_go]
  simp only [mapO_nil, mapO_cons, consO_some, snapA_int, snapA_list, goD_some]
  rw [Call_mk E h14 _ _ rfl]
  simp only [Aa, Ab, Ac, Ad, Ae, Af, Ag, Ah, Ai, Aj, Ak, Al, Am, Ao, Ap, Aq, Ar, Au, Av, Aw, Ay, Az, Ba, Bb, Bc, Bd, Be, Bf, Bg, Bh, Bi, Bj, Bk, Bl, Bm, Bn, Bo, Bp, Bq, Br, Bs, Bt, Bv, Bw, Bx, Bz, Ca, Cb, Cc, Cd, Ce, Cf, Cg, Ch, Ci, Cj, Ck, Cl, Cm, Cn, Co, Cp, Cq, Cr, Cs, Ct, Cu, Cv, Cw, Cy, Cz, Da, Db, Dc, De, Df, Dg, Dh, Di, Dj, Dk, Dl, Dm, Dn, Option.map_some, Dp, Dq, Dr, Dt, Du, Dv, Dw, Dx, Dy, Dz, Ea, Eb, Ec, Ed, Ee, Ef, Eg, Eh, Ei, Ej, Ek, El, Em, Eo, Ep, Er, Es, Et, Eu, Ev, Ew, Ey, Ez, Fa, Fb, Fc, Fe, Ff, Fg, Fh, Fj, Fl, Fm, Fp, Fq, Fs, Ft, Fu, Fv, Fw, Fx, Fy, Fz, Ga, Gb, Gc, Gd, Ge, Gf, Gg, Gh, Gi, Gj, Nat.reduceEqDiff, Nat.reduceAdd, Nat.reduceMul, Nat.reduceLT, Nat.reduceLeDiff, ↓reduceIte, Ml, Mm, Nat.reduceBEq, Mn, Mo, Mp, Mq, reduceCtorEq, Mr, Ms, Gk, Gl, Gm, Gn, Gp, Gq, Gr, Gs, Gt, Gu, Gv, Gw, Gx, Gy, Gz, Ha, Hb, Hc, Hd, He, Hf, Hg, Hh, Hj, Hk, Hl, Hm, Hn, Ho, Hq, Hr, Hs, Ht, Hu, Hv, Hw, Hy, Hz, Ia, Ib, Ic, Ie, Ig, Ih, Ii, Ij, Ik, Il, Im, Io, Ip, Iq, Ir, Iu, Iv, Iw, Iy, Iz, Ja, Jb, Jc, Jd, Je, Jf, Jg, Jh, Ji, Jj, Jk, Jl, Jm, Jn, Jo, Jp, Jq, Jr, Js, Jt, Ju, Jv, Jw, Jy, Jz, Ka, Kb, Kc, Ke, Kf, Kg, Kh, Ki, Kj, Kk, Kl, Km, Kn, Ko, Kq, Kr, Ks, Kt, Ku, Kv, Kw, Kx, Ky, Kz, La, Lb, Lc, Ld, Le, Lf, Lg, Lh, Li, Lj, Ll, Lm, Ln, Lp, and_self, true_and, and_true, Mt, Mu, Mv, Mw, Mx, My, Mz, Na, Nb, Nc, Nd, Nf, Ng, Nh, Int.reduceToNat, Int.reduceLT, Int.reduceEq, Int.reduceLE, List.getElem?_cons_zero, List.getElem?_cons_succ, Lr, Ls, Lt, Ni, Nj, Nk, Nl, gt_iff_lt, ge_iff_le, Lu, Lv, Lw, Lx, Ly, Ma, Nn, Np, Mb, Mc, Md, Me, Mf, Mg, Mh, Mi, Mj, Mk, Nq, Nr, u32s_len]
  have hloop := loop14 h25 h9 f p l hl (.rows false 4 [.agg [.int .u32 0, .int .u32 0, .int .u32 0, .int .u32 0]]) l.length 0 ⟨1702391089, 1651466610, t, w32 l.length⟩ (by omega)
  simp only [Q.s, w32, Int.cast_ofNat_Int] at hloop
  rw [hloop]
  simp only [Aa, Ab, Ac, Ad, Ae, Af, Ag, Ah, Ai, Aj, Ak, Al, Am, Ao, Ap, Aq, Ar, Au, Av, Aw, Ay, Az, Ba, Bb, Bc, Bd, Be, Bf, Bg, Bh, Bi, Bj, Bk, Bl, Bm, Bn, Bo, Bp, Bq, Br, Bs, Bt, Bv, Bw, Bx, Bz, Ca, Cb, Cc, Cd, Ce, Cf, Cg, Ch, Ci, Cj, Ck, Cl, Cm, Cn, Co, Cp, Cq, Cr, Cs, Ct, Cu, Cv, Cw, Cy, Cz, Da, Db, Dc, De, Df, Dg, Dh, Di, Dj, Dk, Dl, Dm, Dn, Option.map_some, Dp, Dq, Dr, Dt, Du, Dv, Dw, Dx, Dy, Dz, Ea, Eb, Ec, Ed, Ee, Ef, Eg, Eh, Ei, Ej, Ek, El, Em, Eo, Ep, Er, Es, Et, Eu, Ev, Ew, Ey, Ez, Fa, Fb, Fc, Fe, Ff, Fg, Fh, Fj, Fl, Fm, Fp, Fq, Fs, Ft, Fu, Fv, Fw, Fx, Fy, Fz, Ga, Gb, Gc, Gd, Ge, Gf, Gg, Gh, Gi, Gj, Nat.reduceEqDiff, Nat.reduceAdd, Nat.reduceMul, Nat.reduceLT, Nat.reduceLeDiff, ↓reduceIte, Ml, Mm, Nat.reduceBEq, Mn, Mo, Mp, Mq, reduceCtorEq, Mr, Ms, Gk, Gl, Gm, Gn, Gp, Gq, Gr, Gs, Gt, Gu, Gv, Gw, Gx, Gy, Gz, Ha, Hb, Hc, Hd, He, Hf, Hg, Hh, Hj, Hk, Hl, Hm, Hn, Ho, Hq, Hr, Hs, Ht, Hu, Hv, Hw, Hy, Hz, Ia, Ib, Ic, Ie, Ig, Ih, Ii, Ij, Ik, Il, Im, Io, Ip, Iq, Ir, Iu, Iv, Iw, Iy, Iz, Ja, Jb, Jc, Jd, Je, Jf, Jg, Jh, Ji, Jj, Jk, Jl, Jm, Jn, Jo, Jp, Jq, Jr, Js, Jt, Ju, Jv, Jw, Jy, Jz, Ka, Kb, Kc, Ke, Kf, Kg, Kh, Ki, Kj, Kk, Kl, Km, Kn, Ko, Kq, Kr, Ks, Kt, Ku, Kv, Kw, Kx, Ky, Kz, La, Lb, Lc, Ld, Le, Lf, Lg, Lh, Li, Lj, Ll, Lm, Ln, Lp, and_self, true_and, and_true, Mt, Mu, Mv, Mw, Mx, My, Mz, Na, Nb, Nc, Nd, Nf, Ng, Nh, Int.reduceToNat, Int.reduceLT, Int.reduceEq, Int.reduceLE, List.getElem?_cons_zero, List.getElem?_cons_succ, Lr, Ls, Lt, Ni, Nj, Nk, Nl, gt_iff_lt, ge_iff_le, Lu, Lv, Lw, Lx, Ly, Ma, Nn, Np, Mb, Mc, Md, Me, Mf, Mg, Mh, Mi, Mj, Mk, Nq, Nr, op_call_deep _ _ h9 rfl, d_perm9 h25 h9, List.drop_zero, Q.s, words, w32, x32]

end Go.Proofs.Ytkafliflpplpeaa.Sim
namespace Go.Proofs.Ytkafliflpplpeaa.Sim
set_option linter.unusedSimpArgs false
set_option linter.unusedVariables false
open Go
set_option maxRecDepth 100000
set_option linter.unusedSimpArgs false

def i64s (l : List Int) : List S := l.map (.int .i64)
theorem i64s_len (l : List Int) : (i64s l).length = l.length := by simp [i64s]
theorem i64s_get {l : List Int} {k : Nat} {x : Int} (h : l[k]? = some x) : (i64s l)[k]? = some (.int .i64 x) := by simp [i64s, h]
theorem u32s_app (a b : List Int) : u32s (a ++ b) = u32s a ++ u32s b := by simp [u32s]
theorem u32s_esz (l : List Int) : eszAll 1 (u32s l) = true := by simp [u32s, eszAll, S.cells]
theorem u32s_atom (l : List Int) : (u32s l).all S.atomR = true := by simp [u32s, S.atomR, S.atom]

/-- The two words of a number. -/
def numW (x : Int) : List Int := [IntKind.u32.wrap (IntKind.u64.wrap x), IntKind.u32.wrap (ishr .u64 (IntKind.u64.wrap x) 32)]

theorem loop15 {E : Env} (t : Int) (f p : Bool) (l : List Int) (hl : l.length ≤ 1000) (b4 : Blk) : ∀ (n k : Nat) (acc : List Int), l.length ≤ k + n → acc.length ≤ 2 * k → k ≤ l.length →
    blockR 0 [0, 4, 5] (loopR E [0, 4, 5, 8, 9, 10] l15_0 ⟨[(0, .int .u32 t), (4, .loc 4 0), (5, growS [] (u32s acc)), (8, .list f p (i64s l)), (9, .int .i64 l.length), (10, .int .i64 k)], [(4, b4)], growH [] 1 (u32s acc)⟩) =
      some (.norm, ⟨[(0, .int .u32 t), (4, .loc 4 0), (5, growS [] (u32s (acc ++ (l.drop k).flatMap numW)))], [(4, b4)], growH [] 1 (u32s (acc ++ (l.drop k).flatMap numW))⟩) := by
  intro n
  induction n with
  | zero =>
    intro k acc hk ha hkl
    have h1 : ¬ (k : Int) < (l.length : Int) := by omega
    rw [loopR]
    conv => lhs; arg 3; arg 1; rw [l15_0]
    simp only [Aa, Ab, Ac, Ad, Ae, Af, Ag, Ah, Ai, Aj, Ak, Al, Am, Ao, Ap, Aq, Ar, Au, Av, Aw, Ay, Az, Ba, Bb, Bc, Bd, Be, Bf, Bg, Bh, Bi, Bj, Bk, Bl, Bm, Bn, Bo, Bp, Bq, Br, Bs, Bt, Bv, Bw, Bx, Bz, Ca, Cb, Cc, Cd, Ce, Cf, Cg, Ch, Ci, Cj, Ck, Cl, Cm, Cn, Co, Cp, Cq, Cr, Cs, Ct, Cu, Cv, Cw, Cy, Cz, Da, Db, Dc, De, Df, Dg, Dh, Di, Dj, Dk, Dl, Dm, Dn, Option.map_some, Dp, Dq, Dr, Dt, Du, Dv, Dw, Dx, Dy, Dz, Ea, Eb, Ec, Ed, Ee, Ef, Eg, Eh, Ei, Ej, Ek, El, Em, Eo, Ep, Er, Es, Et, Eu, Ev, Ew, Ey, Ez, Fa, Fb, Fc, Fe, Ff, Fg, Fh, Fj, Fl, Fm, Fp, Fq, Fs, Ft, Fu, Fv, Fw, Fx, Fy, Fz, Ga, Gb, Gc, Gd, Ge, Gf, Gg, Gh, Gi, Gj, Nat.reduceEqDiff, Nat.reduceAdd, Nat.reduceMul, Nat.reduceLT, Nat.reduceLeDiff, ↓reduceIte, Ml, Mm, Nat.reduceBEq, Mn, Mo, Mp, Mq, reduceCtorEq, Mr, Ms, Gk, Gl, Gm, Gn, Gp, Gq, Gr, Gs, Gt, Gu, Gv, Gw, Gx, Gy, Gz, Ha, Hb, Hc, Hd, He, Hf, Hg, Hh, Hj, Hk, Hl, Hm, Hn, Ho, Hq, Hr, Hs, Ht, Hu, Hv, Hw, Hy, Hz, Ia, Ib, Ic, Ie, Ig, Ih, Ii, Ij, Ik, Il, Im, Io, Ip, Iq, Ir, Iu, Iv, Iw, Iy, Iz, Ja, Jb, Jc, Jd, Je, Jf, Jg, Jh, Ji, Jj, Jk, Jl, Jm, Jn, Jo, Jp, Jq, Jr, Js, Jt, Ju, Jv, Jw, Jy, Jz, Ka, Kb, Kc, Ke, Kf, Kg, Kh, Ki, Kj, Kk, Kl, Km, Kn, Ko, Kq, Kr, Ks, Kt, Ku, Kv, Kw, Kx, Ky, Kz, La, Lb, Lc, Ld, Le, Lf, Lg, Lh, Li, Lj, Ll, Lm, Ln, Lp, and_self, true_and, and_true, Mt, Mu, Mv, Mw, Mx, My, Mz, Na, Nb, Nc, Nd, Nf, Ng, Nh, Int.reduceToNat, Int.reduceLT, Int.reduceEq, Int.reduceLE, List.getElem?_cons_zero, List.getElem?_cons_succ, Lr, Ls, Lt, Ni, Nj, Nk, Nl, gt_iff_lt, ge_iff_le, Lu, Lv, Lw, Lx, Ly, Ma, Nn, Np, Mb, Mc, Md, Me, Mf, Mg, Mh, Mi, Mj, Mk, Nq, Nr, keep1_grow, h1, decide_false]
    rw [List.drop_eq_nil_of_le (by omega)]
    simp only [List.flatMap_nil, List.append_nil]
  | succ n ih =>
    intro k acc hk ha hkl
    by_cases h : k < l.length
    · have h1 : (k : Int) < (l.length : Int) := by omega
      have hx := i64s_get (List.getElem?_eq_getElem h)
      have hw1 : IntKind.i64.wrap ((k : Int) + 1) = ((k + 1 : Nat) : Int) := wrap_i64 (by omega) (by omega)
      have ih' := ih (k + 1) (acc ++ numW l[k]) (by omega) (by simp [numW]; omega) (by omega)
      have hap := fun (d : Nat) (os : List KO) (fr : Fr) (vars : Vars) => app_grow (E := E) (C := Call E) (d := d) (os := os) (fr := fr) (vars := vars) (H := []) (esz := 1) (bytes := 4) (f := true) (p := true) (ys := u32s (numW l[k])) (u32s_esz acc) (u32s_esz _) (by simp [u32s, numW, okLen]; omega) (by simp [u32s, numW])
      rw [← u32s_app] at hap
      have hys : u32s (numW l[k]) = [.int .u32 (IntKind.u32.wrap (IntKind.u64.wrap l[k])), .int .u32 (IntKind.u32.wrap (ishr .u64 (IntKind.u64.wrap l[k]) 32))] := rfl
      rw [hys] at hap
      rw [loopR]
      conv => lhs; arg 3; arg 1; rw [l15_0]
      rw [List.drop_eq_getElem_cons h, List.flatMap_cons, ← List.append_assoc]
      simp only [Aa, Ab, Ac, Ad, Ae, Af, Ag, Ah, Ai, Aj, Ak, Al, Am, Ao, Ap, Aq, Ar, Au, Av, Aw, Ay, Az, Ba, Bb, Bc, Bd, Be, Bf, Bg, Bh, Bi, Bj, Bk, Bl, Bm, Bn, Bo, Bp, Bq, Br, Bs, Bt, Bv, Bw, Bx, Bz, Ca, Cb, Cc, Cd, Ce, Cf, Cg, Ch, Ci, Cj, Ck, Cl, Cm, Cn, Co, Cp, Cq, Cr, Cs, Ct, Cu, Cv, Cw, Cy, Cz, Da, Db, Dc, De, Df, Dg, Dh, Di, Dj, Dk, Dl, Dm, Dn, Option.map_some, Dp, Dq, Dr, Dt, Du, Dv, Dw, Dx, Dy, Dz, Ea, Eb, Ec, Ed, Ee, Ef, Eg, Eh, Ei, Ej, Ek, El, Em, Eo, Ep, Er, Es, Et, Eu, Ev, Ew, Ey, Ez, Fa, Fb, Fc, Fe, Ff, Fg, Fh, Fj, Fl, Fm, Fp, Fq, Fs, Ft, Fu, Fv, Fw, Fx, Fy, Fz, Ga, Gb, Gc, Gd, Ge, Gf, Gg, Gh, Gi, Gj, Nat.reduceEqDiff, Nat.reduceAdd, Nat.reduceMul, Nat.reduceLT, Nat.reduceLeDiff, ↓reduceIte, Ml, Mm, Nat.reduceBEq, Mn, Mo, Mp, Mq, reduceCtorEq, Mr, Ms, Gk, Gl, Gm, Gn, Gp, Gq, Gr, Gs, Gt, Gu, Gv, Gw, Gx, Gy, Gz, Ha, Hb, Hc, Hd, He, Hf, Hg, Hh, Hj, Hk, Hl, Hm, Hn, Ho, Hq, Hr, Hs, Ht, Hu, Hv, Hw, Hy, Hz, Ia, Ib, Ic, Ie, Ig, Ih, Ii, Ij, Ik, Il, Im, Io, Ip, Iq, Ir, Iu, Iv, Iw, Iy, Iz, Ja, Jb, Jc, Jd, Je, Jf, Jg, Jh, Ji, Jj, Jk, Jl, Jm, Jn, Jo, Jp, Jq, Jr, Js, Jt, Ju, Jv, Jw, Jy, Jz, Ka, Kb, Kc, Ke, Kf, Kg, Kh, Ki, Kj, Kk, Kl, Km, Kn, Ko, Kq, Kr, Ks, Kt, Ku, Kv, Kw, Kx, Ky, Kz, La, Lb, Lc, Ld, Le, Lf, Lg, Lh, Li, Lj, Ll, Lm, Ln, Lp, and_self, true_and, and_true, Mt, Mu, Mv, Mw, Mx, My, Mz, Na, Nb, Nc, Nd, Nf, Ng, Nh, Int.reduceToNat, Int.reduceLT, Int.reduceEq, Int.reduceLE, List.getElem?_cons_zero, List.getElem?_cons_succ, Lr, Ls, Lt, Ni, Nj, Nk, Nl, gt_iff_lt, ge_iff_le, Lu, Lv, Lw, Lx, Ly, Ma, Nn, Np, Mb, Mc, Md, Me, Mf, Mg, Mh, Mi, Mj, Mk, Nq, Nr, keep1_grow, h1, decide_true, hx, hw1, hap]
      exact ih'
    · have h1 : ¬ (k : Int) < (l.length : Int) := by omega
      rw [loopR]
      conv => lhs; arg 3; arg 1; rw [l15_0]
      simp only [Aa, Ab, Ac, Ad, Ae, Af, Ag, Ah, Ai, Aj, Ak, Al, Am, Ao, Ap, Aq, Ar, Au, Av, Aw, Ay, Az, Ba, Bb, Bc, Bd, Be, Bf, Bg, Bh, Bi, Bj, Bk, Bl, Bm, Bn, Bo, Bp, Bq, Br, Bs, Bt, Bv, Bw, Bx, Bz, Ca, Cb, Cc, Cd, Ce, Cf, Cg, Ch, Ci, Cj, Ck, Cl, Cm, Cn, Co, Cp, Cq, Cr, Cs, Ct, Cu, Cv, Cw, Cy, Cz, Da, Db, Dc, De, Df, Dg, Dh, Di, Dj, Dk, Dl, Dm, Dn, Option.map_some, Dp, Dq, Dr, Dt, Du, Dv, Dw, Dx, Dy, Dz, Ea, Eb, Ec, Ed, Ee, Ef, Eg, Eh, Ei, Ej, Ek, El, Em, Eo, Ep, Er, Es, Et, Eu, Ev, Ew, Ey, Ez, Fa, Fb, Fc, Fe, Ff, Fg, Fh, Fj, Fl, Fm, Fp, Fq, Fs, Ft, Fu, Fv, Fw, Fx, Fy, Fz, Ga, Gb, Gc, Gd, Ge, Gf, Gg, Gh, Gi, Gj, Nat.reduceEqDiff, Nat.reduceAdd, Nat.reduceMul, Nat.reduceLT, Nat.reduceLeDiff, ↓reduceIte, Ml, Mm, Nat.reduceBEq, Mn, Mo, Mp, Mq, reduceCtorEq, Mr, Ms, Gk, Gl, Gm, Gn, Gp, Gq, Gr, Gs, Gt, Gu, Gv, Gw, Gx, Gy, Gz, Ha, Hb, Hc, Hd, He, Hf, Hg, Hh, Hj, Hk, Hl, Hm, Hn, Ho, Hq, Hr, Hs, Ht, Hu, Hv, Hw, Hy, Hz, Ia, Ib, Ic, Ie, Ig, Ih, Ii, Ij, Ik, Il, Im, Io, Ip, Iq, Ir, Iu, Iv, Iw, Iy, Iz, Ja, Jb, Jc, Jd, Je, Jf, Jg, Jh, Ji, Jj, Jk, Jl, Jm, Jn, Jo, Jp, Jq, Jr, Js, Jt, Ju, Jv, Jw, Jy, Jz, Ka, Kb, Kc, Ke, Kf, Kg, Kh, Ki, Kj, Kk, Kl, Km, Kn, Ko, Kq, Kr, Ks, Kt, Ku, Kv, Kw, Kx, Ky, Kz, La, Lb, Lc, Ld, Le, Lf, Lg, Lh, Li, Lj, Ll, Lm, Ln, Lp, and_self, true_and, and_true, Mt, Mu, Mv, Mw, Mx, My, Mz, Na, Nb, Nc, Nd, Nf, Ng, Nh, Int.reduceToNat, Int.reduceLT, Int.reduceEq, Int.reduceLE, List.getElem?_cons_zero, List.getElem?_cons_succ, Lr, Ls, Lt, Ni, Nj, Nk, Nl, gt_iff_lt, ge_iff_le, Lu, Lv, Lw, Lx, Ly, Ma, Nn, Np, Mb, Mc, Md, Me, Mf, Mg, Mh, Mi, Mj, Mk, Nq, Nr, keep1_grow, h1, decide_false]
      rw [List.drop_eq_nil_of_le (by omega)]
      simp only [List.flatMap_nil, List.append_nil]

theorem numW_len (l : List Int) : (l.flatMap numW).length = 2 * l.length := by
  induction l with
  | nil => rfl
  | cons a r ih => simp [numW, ih]; omega

theorem d_numbers15 {E : Env} (h25 : E 25 = some (.code c25)) (h9 : E 9 = some (.code c9)) (h14 : E 14 = some (.code c14)) (h15 : E 15 = some (.code c15)) (t : Int) (f p : Bool) (l : List Int) (hl : l.length ≤ 1000) (hp : Hp) :
    deepE E (Call E) 15 [.int .u32 t, .list f p (i64s l)] hp = some (words t (l.flatMap numW)).s := by
  rw [deep_code h15 rfl, deep_go]
  simp only [mapO_nil, mapO_cons, consO_some, snapA_int, snapA_list, goD_some]
  rw [Call_mk E h15 _ _ rfl]
  simp only [Aa, Ab, Ac, Ad, Ae, Af, Ag, Ah, Ai, Aj, Ak, Al, Am, Ao, Ap, Aq, Ar, Au, Av, Aw, Ay, Az, Ba, Bb, Bc, Bd, Be, Bf, Bg, Bh, Bi, Bj, Bk, Bl, Bm, Bn, Bo, Bp, Bq, Br, Bs, Bt, Bv, Bw, Bx, Bz, Ca, Cb, Cc, Cd, Ce, Cf, Cg, Ch, Ci, Cj, Ck, Cl, Cm, Cn, Co, Cp, Cq, Cr, Cs, Ct, Cu, Cv, Cw, Cy, Cz, Da, Db, Dc, De, Df, Dg, Dh, Di, Dj, Dk, Dl, Dm, Dn, Option.map_some, Dp, Dq, Dr, Dt, Du, Dv, Dw, Dx, Dy, Dz, Ea, Eb, Ec, Ed, Ee, Ef, Eg, Eh, Ei, Ej, Ek, El, Em, Eo, Ep, Er, Es, Et, Eu, Ev, Ew, Ey, Ez, Fa, Fb, Fc, Fe, Ff, Fg, Fh, Fj, Fl, Fm, Fp, Fq, Fs, Ft, Fu, Fv, Fw, Fx, Fy, Fz, Ga, Gb, Gc, Gd, Ge, Gf, Gg, Gh, Gi, Gj, Nat.reduceEqDiff, Nat.reduceAdd, Nat.reduceMul, Nat.reduceLT, Nat.reduceLeDiff, ↓reduceIte, Ml, Mm, Nat.reduceBEq, Mn, Mo, Mp, Mq, reduceCtorEq, Mr, Ms, Gk, Gl, Gm, Gn, Gp, Gq, Gr, Gs, Gt, Gu, Gv, Gw, Gx, Gy, Gz, Ha, Hb, Hc, Hd, He, Hf, Hg, Hh, Hj, Hk, Hl, Hm, Hn, Ho, Hq, Hr, Hs, Ht, Hu, Hv, Hw, Hy, Hz, Ia, Ib, Ic, Ie, Ig, Ih, Ii, Ij, Ik, Il, Im, Io, Ip, Iq, Ir, Iu, Iv, Iw, Iy, Iz, Ja, Jb, Jc, Jd, Je, Jf, Jg, Jh, Ji, Jj, Jk, Jl, Jm, Jn, Jo, Jp, Jq, Jr, Js, Jt, Ju, Jv, Jw, Jy, Jz, Ka, Kb, Kc, Ke, Kf, Kg, Kh, Ki, Kj, Kk, Kl, Km, Kn, Ko, Kq, Kr, Ks, Kt, Ku, Kv, Kw, Kx, Ky, Kz, La, Lb, Lc, Ld, Le, Lf, Lg, Lh, Li, Lj, Ll, Lm, Ln, Lp, and_self, true_and, and_true, Mt, Mu, Mv, Mw, Mx, My, Mz, Na, Nb, Nc, Nd, Nf, Ng, Nh, Int.reduceToNat, Int.reduceLT, Int.reduceEq, Int.reduceLE, List.getElem?_cons_zero, List.getElem?_cons_succ, Lr, Ls, Lt, Ni, Nj, Nk, Nl, gt_iff_lt, ge_iff_le, Lu, Lv, Lw, Lx, Ly, Ma, Nn, Np, Mb, Mc, Md, Me, Mf, Mg, Mh, Mi, Mj, Mk, Nq, Nr, i64s_len]
  have hloop := loop15 (E := E) t f p l hl (.rows false 4 [.agg [.int .u32 0, .int .u32 0, .int .u32 0, .int .u32 0]]) l.length 0 [] (by omega) (by simp) (by omega)
  simp only [Int.cast_ofNat_Int, List.drop_zero, List.nil_append] at hloop
  rw [show growS [] (u32s []) = .list true true [] from rfl, show growH [] 1 (u32s []) = [] from rfl] at hloop
  rw [hloop]
  have hw := fun hp' => d_words14 h25 h9 h14 t (u32s (l.flatMap numW)).isEmpty (u32s (l.flatMap numW)).isEmpty (l.flatMap numW) (by rw [numW_len]; omega) hp'
  have hcall : deepE E (Call E) 14 [.int .u32 t, growS [] (u32s (l.flatMap numW))] (growH [] 1 (u32s (l.flatMap numW))) = some (words t (l.flatMap numW)).s := by
    rw [← hw [], deep_code h14 rfl, deep_code h14 rfl, deep_go, deep_go]
    simp only [mapO_nil, mapO_cons, consO_some, snapA_int, snapA_list, snapA_grow (u32s_atom _)]
  simp only [Aa, Ab, Ac, Ad, Ae, Af, Ag, Ah, Ai, Aj, Ak, Al, Am, Ao, Ap, Aq, Ar, Au, Av, Aw, Ay, Az, Ba, Bb, Bc, Bd, Be, Bf, Bg, Bh, Bi, Bj, Bk, Bl, Bm, Bn, Bo, Bp, Bq, Br, Bs, Bt, Bv, Bw, Bx, Bz, Ca, Cb, Cc, Cd, Ce, Cf, Cg, Ch, Ci, Cj, Ck, Cl, Cm, Cn, Co, Cp, Cq, Cr, Cs, Ct, Cu, Cv, Cw, Cy, Cz, Da, Db, Dc, De, Df, Dg, Dh, Di, Dj, Dk, Dl, Dm, Dn, Option.map_some, Dp, Dq, Dr, Dt, Du, Dv, Dw, Dx, Dy, Dz, Ea, Eb, Ec, Ed, Ee, Ef, Eg, Eh, Ei, Ej, Ek, El, Em, Eo, Ep, Er, Es, Et, Eu, Ev, Ew, Ey, Ez, Fa, Fb, Fc, Fe, Ff, Fg, Fh, Fj, Fl, Fm, Fp, Fq, Fs, Ft, Fu, Fv, Fw, Fx, Fy, Fz, Ga, Gb, Gc, Gd, Ge, Gf, Gg, Gh, Gi, Gj, Nat.reduceEqDiff, Nat.reduceAdd, Nat.reduceMul, Nat.reduceLT, Nat.reduceLeDiff, ↓reduceIte, Ml, Mm, Nat.reduceBEq, Mn, Mo, Mp, Mq, reduceCtorEq, Mr, Ms, Gk, Gl, Gm, Gn, Gp, Gq, Gr, Gs, Gt, Gu, Gv, Gw, Gx, Gy, Gz, Ha, Hb, Hc, Hd, He, Hf, Hg, Hh, Hj, Hk, Hl, Hm, Hn, Ho, Hq, Hr, Hs, Ht, Hu, Hv, Hw, Hy, Hz, Ia, Ib, Ic, Ie, Ig, Ih, Ii, Ij, Ik, Il, Im, Io, Ip, Iq, Ir, Iu, Iv, Iw, Iy, Iz, Ja, Jb, Jc, Jd, Je, Jf, Jg, Jh, Ji, Jj, Jk, Jl, Jm, Jn, Jo, Jp, Jq, Jr, Js, Jt, Ju, Jv, Jw, Jy, Jz, Ka, Kb, Kc, Ke, Kf, Kg, Kh, Ki, Kj, Kk, Kl, Km, Kn, Ko, Kq, Kr, Ks, Kt, Ku, Kv, Kw, Kx, Ky, Kz, La, Lb, Lc, Ld, Le, Lf, Lg, Lh, Li, Lj, Ll, Lm, Ln, Lp, and_self, true_and, and_true, Mt, Mu, Mv, Mw, Mx, My, Mz, Na, Nb, Nc, Nd, Nf, Ng, Nh, Int.reduceToNat, Int.reduceLT, Int.reduceEq, Int.reduceLE, List.getElem?_cons_zero, List.getElem?_cons_succ, Lr, Ls, Lt, Ni, Nj, Nk, Nl, gt_iff_lt, ge_iff_le, Lu, Lv, Lw, Lx, Ly, Ma, Nn, Np, Mb, Mc, Md, Me, Mf, Mg, Mh, Mi, Mj, Mk, Nq, Nr, op_call_deep _ _ h14 rfl, hcall, Q.s]

end Go.Proofs.Ytkafliflpplpeaa.Sim
namespace Go.Proofs.Ytkafliflpplpeaa.Sim
set_option linter.unusedSimpArgs false
set_option linter.unusedVariables false
open Go
set_option maxRecDepth 100000
set_option linter.unusedSimpArgs false

/-- The words of a text: byte by byte. -/
def bw : List UInt8 → Nat → List Int → List Int
  | [], _, ws => ws
  | b :: r, i, ws => bw r (i + 1) (ws.set (i / 4) (ibit .or .u32 (ws.getD (i / 4) 0) (ishl .u32 (IntKind.u32.wrap b.toNat) (8 * (i % 4)))))

theorem u32s_set (ws : List Int) (j : Nat) (v : Int) : (u32s ws).set j (.int .u32 v) = u32s (ws.set j v) := by simp [u32s, List.map_set]

theorem loop17 {E : Env} (t : Int) (s : List UInt8) (hl : s.length ≤ 1000) (b4 : Blk) : ∀ (n k : Nat) (ws : List Int) (m : Nat), s.length ≤ k + n → ws.length = m → s.length ≤ 4 * m →
    blockR 0 [0, 1, 4, 5] (loopR E [0, 1, 4, 5, 13, 14] l17_0 ⟨[(0, .int .u32 t), (1, .str s), (4, .loc 4 0), (5, .own 0 m 0 m), (13, .int .i64 s.length), (14, .int .i64 k)], [(4, b4)], [.rows false 1 (u32s ws)]⟩) =
      some (.norm, ⟨[(0, .int .u32 t), (1, .str s), (4, .loc 4 0), (5, .own 0 m 0 m)], [(4, b4)], [.rows false 1 (u32s (bw (s.drop k) k ws))]⟩) := by
  intro n
  induction n with
  | zero =>
    intro k ws m hk hm hs
    have h1 : ¬ (k : Int) < (s.length : Int) := by omega
    rw [loopR]
    conv => lhs; arg 3; arg 1; rw [l17_0]
    simp only [Aa, Ab, Ac, Ad, Ae, Af, Ag, Ah, Ai, Aj, Ak, Al, Am, Ao, Ap, Aq, Ar, Au, Av, Aw, Ay, Az, Ba, Bb, Bc, Bd, Be, Bf, Bg, Bh, Bi, Bj, Bk, Bl, Bm, Bn, Bo, Bp, Bq, Br, Bs, Bt, Bv, Bw, Bx, Bz, Ca, Cb, Cc, Cd, Ce, Cf, Cg, Ch, Ci, Cj, Ck, Cl, Cm, Cn, Co, Cp, Cq, Cr, Cs, Ct, Cu, Cv, Cw, Cy, Cz, Da, Db, Dc, De, Df, Dg, Dh, Di, Dj, Dk, Dl, Dm, Dn, Option.map_some, Dp, Dq, Dr, Dt, Du, Dv, Dw, Dx, Dy, Dz, Ea, Eb, Ec, Ed, Ee, Ef, Eg, Eh, Ei, Ej, Ek, El, Em, Eo, Ep, Er, Es, Et, Eu, Ev, Ew, Ey, Ez, Fa, Fb, Fc, Fe, Ff, Fg, Fh, Fj, Fl, Fm, Fp, Fq, Fs, Ft, Fu, Fv, Fw, Fx, Fy, Fz, Ga, Gb, Gc, Gd, Ge, Gf, Gg, Gh, Gi, Gj, Nat.reduceEqDiff, Nat.reduceAdd, Nat.reduceMul, Nat.reduceLT, Nat.reduceLeDiff, ↓reduceIte, Ml, Mm, Nat.reduceBEq, Mn, Mo, Mp, Mq, reduceCtorEq, Mr, Ms, Gk, Gl, Gm, Gn, Gp, Gq, Gr, Gs, Gt, Gu, Gv, Gw, Gx, Gy, Gz, Ha, Hb, Hc, Hd, He, Hf, Hg, Hh, Hj, Hk, Hl, Hm, Hn, Ho, Hq, Hr, Hs, Ht, Hu, Hv, Hw, Hy, Hz, Ia, Ib, Ic, Ie, Ig, Ih, Ii, Ij, Ik, Il, Im, Io, Ip, Iq, Ir, Iu, Iv, Iw, Iy, Iz, Ja, Jb, Jc, Jd, Je, Jf, Jg, Jh, Ji, Jj, Jk, Jl, Jm, Jn, Jo, Jp, Jq, Jr, Js, Jt, Ju, Jv, Jw, Jy, Jz, Ka, Kb, Kc, Ke, Kf, Kg, Kh, Ki, Kj, Kk, Kl, Km, Kn, Ko, Kq, Kr, Ks, Kt, Ku, Kv, Kw, Kx, Ky, Kz, La, Lb, Lc, Ld, Le, Lf, Lg, Lh, Li, Lj, Ll, Lm, Ln, Lp, and_self, true_and, and_true, Mt, Mu, Mv, Mw, Mx, My, Mz, Na, Nb, Nc, Nd, Nf, Ng, Nh, Int.reduceToNat, Int.reduceLT, Int.reduceEq, Int.reduceLE, List.getElem?_cons_zero, List.getElem?_cons_succ, Lr, Ls, Lt, Ni, Nj, Nk, Nl, gt_iff_lt, ge_iff_le, Lu, Lv, Lw, Lx, Ly, Ma, Nn, Np, Mb, Mc, Md, Me, Mf, Mg, Mh, Mi, Mj, Mk, Nq, Nr, h1, decide_false]
    rw [List.drop_eq_nil_of_le (by omega)]
    rfl
  | succ n ih =>
    intro k ws m hk hm hs
    by_cases h : k < s.length
    · have h1 : (k : Int) < (s.length : Int) := by omega
      have hx : s[k]? = some s[k] := List.getElem?_eq_getElem h
      have hj : k / 4 < ws.length := by omega
      have hy := u32s_get (List.getElem?_eq_getElem hj)
      have hgd : ws.getD (k / 4) 0 = ws[k / 4] := by simp [List.getD, hj]
      have hw1 : IntKind.i64.wrap ((k : Int) + 1) = ((k + 1 : Nat) : Int) := wrap_i64 (by omega) (by omega)
      have hq : IntKind.i64.wrap ((k : Int).tdiv 4) = ((k / 4 : Nat) : Int) := by
        rw [show (k : Int).tdiv 4 = ((k / 4 : Nat) : Int) from rfl]
        exact wrap_i64 (by omega) (by omega)
      have hr : (k : Int).tmod 4 = ((k % 4 : Nat) : Int) := rfl
      have h8 : IntKind.i64.wrap (8 * ((k % 4 : Nat) : Int)) = ((8 * (k % 4) : Nat) : Int) := by
        rw [show 8 * ((k % 4 : Nat) : Int) = ((8 * (k % 4) : Nat) : Int) by simp]
        exact wrap_i64 (by omega) (by omega)
      have h9 : ¬ ((8 * (k % 4) : Nat) : Int) < 0 := by omega
      have hlt : ((k / 4 : Nat) : Int) < (m : Int) := by omega
      have ih' := ih (k + 1) (ws.set (k / 4) (ibit .or .u32 ws[k / 4] (ishl .u32 (IntKind.u32.wrap s[k].toNat) (8 * (k % 4))))) m (by omega) (by simpa using hm) hs
      rw [loopR]
      conv => lhs; arg 3; arg 1; rw [l17_0]
      rw [List.drop_eq_getElem_cons h, bw, hgd]
      simp only [Aa, Ab, Ac, Ad, Ae, Af, Ag, Ah, Ai, Aj, Ak, Al, Am, Ao, Ap, Aq, Ar, Au, Av, Aw, Ay, Az, Ba, Bb, Bc, Bd, Be, Bf, Bg, Bh, Bi, Bj, Bk, Bl, Bm, Bn, Bo, Bp, Bq, Br, Bs, Bt, Bv, Bw, Bx, Bz, Ca, Cb, Cc, Cd, Ce, Cf, Cg, Ch, Ci, Cj, Ck, Cl, Cm, Cn, Co, Cp, Cq, Cr, Cs, Ct, Cu, Cv, Cw, Cy, Cz, Da, Db, Dc, De, Df, Dg, Dh, Di, Dj, Dk, Dl, Dm, Dn, Option.map_some, Dp, Dq, Dr, Dt, Du, Dv, Dw, Dx, Dy, Dz, Ea, Eb, Ec, Ed, Ee, Ef, Eg, Eh, Ei, Ej, Ek, El, Em, Eo, Ep, Er, Es, Et, Eu, Ev, Ew, Ey, Ez, Fa, Fb, Fc, Fe, Ff, Fg, Fh, Fj, Fl, Fm, Fp, Fq, Fs, Ft, Fu, Fv, Fw, Fx, Fy, Fz, Ga, Gb, Gc, Gd, Ge, Gf, Gg, Gh, Gi, Gj, Nat.reduceEqDiff, Nat.reduceAdd, Nat.reduceMul, Nat.reduceLT, Nat.reduceLeDiff, ↓reduceIte, Ml, Mm, Nat.reduceBEq, Mn, Mo, Mp, Mq, reduceCtorEq, Mr, Ms, Gk, Gl, Gm, Gn, Gp, Gq, Gr, Gs, Gt, Gu, Gv, Gw, Gx, Gy, Gz, Ha, Hb, Hc, Hd, He, Hf, Hg, Hh, Hj, Hk, Hl, Hm, Hn, Ho, Hq, Hr, Hs, Ht, Hu, Hv, Hw, Hy, Hz, Ia, Ib, Ic, Ie, Ig, Ih, Ii, Ij, Ik, Il, Im, Io, Ip, Iq, Ir, Iu, Iv, Iw, Iy, Iz, Ja, Jb, Jc, Jd, Je, Jf, Jg, Jh, Ji, Jj, Jk, Jl, Jm, Jn, Jo, Jp, Jq, Jr, Js, Jt, Ju, Jv, Jw, Jy, Jz, Ka, Kb, Kc, Ke, Kf, Kg, Kh, Ki, Kj, Kk, Kl, Km, Kn, Ko, Kq, Kr, Ks, Kt, Ku, Kv, Kw, Kx, Ky, Kz, La, Lb, Lc, Ld, Le, Lf, Lg, Lh, Li, Lj, Ll, Lm, Ln, Lp, and_self, true_and, and_true, Mt, Mu, Mv, Mw, Mx, My, Mz, Na, Nb, Nc, Nd, Nf, Ng, Nh, Int.reduceToNat, Int.reduceLT, Int.reduceEq, Int.reduceLE, List.getElem?_cons_zero, List.getElem?_cons_succ, Lr, Ls, Lt, Ni, Nj, Nk, Nl, gt_iff_lt, ge_iff_le, Lu, Lv, Lw, Lx, Ly, Ma, Nn, Np, Mb, Mc, Md, Me, Mf, Mg, Mh, Mi, Mj, Mk, Nq, Nr, h1, decide_true, rd17_0, d17_0, binS_quo, binS_rem, hx, hy, hq, hr, h8, h9, hlt, hw1, u32s_len, hm, u32s_set]
      exact ih'
    · have h1 : ¬ (k : Int) < (s.length : Int) := by omega
      rw [loopR]
      conv => lhs; arg 3; arg 1; rw [l17_0]
      simp only [Aa, Ab, Ac, Ad, Ae, Af, Ag, Ah, Ai, Aj, Ak, Al, Am, Ao, Ap, Aq, Ar, Au, Av, Aw, Ay, Az, Ba, Bb, Bc, Bd, Be, Bf, Bg, Bh, Bi, Bj, Bk, Bl, Bm, Bn, Bo, Bp, Bq, Br, Bs, Bt, Bv, Bw, Bx, Bz, Ca, Cb, Cc, Cd, Ce, Cf, Cg, Ch, Ci, Cj, Ck, Cl, Cm, Cn, Co, Cp, Cq, Cr, Cs, Ct, Cu, Cv, Cw, Cy, Cz, Da, Db, Dc, De, Df, Dg, Dh, Di, Dj, Dk, Dl, Dm, Dn, Option.map_some, Dp, Dq, Dr, Dt, Du, Dv, Dw, Dx, Dy, Dz, Ea, Eb, Ec, Ed, Ee, Ef, Eg, Eh, Ei, Ej, Ek, El, Em, Eo, Ep, Er, Es, Et, Eu, Ev, Ew, Ey, Ez, Fa, Fb, Fc, Fe, Ff, Fg, Fh, Fj, Fl, Fm, Fp, Fq, Fs, Ft, Fu, Fv, Fw, Fx, Fy, Fz, Ga, Gb, Gc, Gd, Ge, Gf, Gg, Gh, Gi, Gj, Nat.reduceEqDiff, Nat.reduceAdd, Nat.reduceMul, Nat.reduceLT, Nat.reduceLeDiff, ↓reduceIte, Ml, Mm, Nat.reduceBEq, Mn, Mo, Mp, Mq, reduceCtorEq, Mr, Ms, Gk, Gl, Gm, Gn, Gp, Gq, Gr, Gs, Gt, Gu, Gv, Gw, Gx, Gy, Gz, Ha, Hb, Hc, Hd, He, Hf, Hg, Hh, Hj, Hk, Hl, Hm, Hn, Ho, Hq, Hr, Hs, Ht, Hu, Hv, Hw, Hy, Hz, Ia, Ib, Ic, Ie, Ig, Ih, Ii, Ij, Ik, Il, Im, Io, Ip, Iq, Ir, Iu, Iv, Iw, Iy, Iz, Ja, Jb, Jc, Jd, Je, Jf, Jg, Jh, Ji, Jj, Jk, Jl, Jm, Jn, Jo, Jp, Jq, Jr, Js, Jt, Ju, Jv, Jw, Jy, Jz, Ka, Kb, Kc, Ke, Kf, Kg, Kh, Ki, Kj, Kk, Kl, Km, Kn, Ko, Kq, Kr, Ks, Kt, Ku, Kv, Kw, Kx, Ky, Kz, La, Lb, Lc, Ld, Le, Lf, Lg, Lh, Li, Lj, Ll, Lm, Ln, Lp, and_self, true_and, and_true, Mt, Mu, Mv, Mw, Mx, My, Mz, Na, Nb, Nc, Nd, Nf, Ng, Nh, Int.reduceToNat, Int.reduceLT, Int.reduceEq, Int.reduceLE, List.getElem?_cons_zero, List.getElem?_cons_succ, Lr, Ls, Lt, Ni, Nj, Nk, Nl, gt_iff_lt, ge_iff_le, Lu, Lv, Lw, Lx, Ly, Ma, Nn, Np, Mb, Mc, Md, Me, Mf, Mg, Mh, Mi, Mj, Mk, Nq, Nr, h1, decide_false]
      rw [List.drop_eq_nil_of_le (by omega)]
      rfl

theorem bw_len : ∀ (s : List UInt8) (i : Nat) (ws : List Int), (bw s i ws).length = ws.length
  | [], _, _ => rfl
  | b :: r, i, ws => by rw [bw, bw_len r]; simp

/-- All words of a text. -/
def textW (s : List UInt8) : List Int := bw s 0 (List.replicate ((s.length + 3) / 4) 0) ++ [IntKind.u32.wrap s.length]

theorem u32s_rep (n : Nat) : List.replicate n (S.int .u32 0) = u32s (List.replicate n 0) := by simp [u32s]

theorem d_bytes17 {E : Env} (h25 : E 25 = some (.code c25)) (h9 : E 9 = some (.code c9)) (h14 : E 14 = some (.code c14)) (h17 : E 17 = some (.code c17)) (t : Int) (s : List UInt8) (hl : s.length ≤ 1000) (hp : Hp) :
    deepE E (Call E) 17 [.int .u32 t, .str s] hp = some (words t (textW s)).s := by
  rw [deep_code h17 rfl, deep_go]
  simp only [mapO_nil, mapO_cons, consO_some, snapA_int, snapA_str, goD_some]
  rw [Call_mk E h17 _ _ rfl]
  have hw1 : IntKind.i64.wrap ((s.length : Int) + 3) = ((s.length + 3 : Nat) : Int) := wrap_i64 (by omega) (by omega)
  have hq : IntKind.i64.wrap (((s.length + 3 : Nat) : Int).tdiv 4) = (((s.length + 3) / 4 : Nat) : Int) := by
    rw [show ((s.length + 3 : Nat) : Int).tdiv 4 = (((s.length + 3) / 4 : Nat) : Int) from rfl]
    exact wrap_i64 (by omega) (by omega)
  have hm1 : ((((s.length + 3) / 4 : Nat) : Int)) * 4 ≤ 140737488351232 := by omega
  have hm2 : ((((s.length + 3) / 4 : Nat) : Int)) ≤ 4611686018427387904 := by omega
  simp only [Aa, Ab, Ac, Ad, Ae, Af, Ag, Ah, Ai, Aj, Ak, Al, Am, Ao, Ap, Aq, Ar, Au, Av, Aw, Ay, Az, Ba, Bb, Bc, Bd, Be, Bf, Bg, Bh, Bi, Bj, Bk, Bl, Bm, Bn, Bo, Bp, Bq, Br, Bs, Bt, Bv, Bw, Bx, Bz, Ca, Cb, Cc, Cd, Ce, Cf, Cg, Ch, Ci, Cj, Ck, Cl, Cm, Cn, Co, Cp, Cq, Cr, Cs, Ct, Cu, Cv, Cw, Cy, Cz, Da, Db, Dc, De, Df, Dg, Dh, Di, Dj, Dk, Dl, Dm, Dn, Option.map_some, Dp, Dq, Dr, Dt, Du, Dv, Dw, Dx, Dy, Dz, Ea, Eb, Ec, Ed, Ee, Ef, Eg, Eh, Ei, Ej, Ek, El, Em, Eo, Ep, Er, Es, Et, Eu, Ev, Ew, Ey, Ez, Fa, Fb, Fc, Fe, Ff, Fg, Fh, Fj, Fl, Fm, Fp, Fq, Fs, Ft, Fu, Fv, Fw, Fx, Fy, Fz, Ga, Gb, Gc, Gd, Ge, Gf, Gg, Gh, Gi, Gj, Nat.reduceEqDiff, Nat.reduceAdd, Nat.reduceMul, Nat.reduceLT, Nat.reduceLeDiff, ↓reduceIte, Ml, Mm, Nat.reduceBEq, Mn, Mo, Mp, Mq, reduceCtorEq, Mr, Ms, Gk, Gl, Gm, Gn, Gp, Gq, Gr, Gs, Gt, Gu, Gv, Gw, Gx, Gy, Gz, Ha, Hb, Hc, Hd, He, Hf, Hg, Hh, Hj, Hk, Hl, Hm, Hn, Ho, Hq, Hr, Hs, Ht, Hu, Hv, Hw, Hy, Hz, Ia, Ib, Ic, Ie, Ig, Ih, Ii, Ij, Ik, Il, Im, Io, Ip, Iq, Ir, Iu, Iv, Iw, Iy, Iz, Ja, Jb, Jc, Jd, Je, Jf, Jg, Jh, Ji, Jj, Jk, Jl, Jm, Jn, Jo, Jp, Jq, Jr, Js, Jt, Ju, Jv, Jw, Jy, Jz, Ka, Kb, Kc, Ke, Kf, Kg, Kh, Ki, Kj, Kk, Kl, Km, Kn, Ko, Kq, Kr, Ks, Kt, Ku, Kv, Kw, Kx, Ky, Kz, La, Lb, Lc, Ld, Le, Lf, Lg, Lh, Li, Lj, Ll, Lm, Ln, Lp, and_self, true_and, and_true, Mt, Mu, Mv, Mw, Mx, My, Mz, Na, Nb, Nc, Nd, Nf, Ng, Nh, Int.reduceToNat, Int.reduceLT, Int.reduceEq, Int.reduceLE, List.getElem?_cons_zero, List.getElem?_cons_succ, Lr, Ls, Lt, Ni, Nj, Nk, Nl, gt_iff_lt, ge_iff_le, Lu, Lv, Lw, Lx, Ly, Ma, Nn, Np, Mb, Mc, Md, Me, Mf, Mg, Mh, Mi, Mj, Mk, Nq, Nr, hw1, binS_quo, hq, mkslR_int, hm1, hm2, u32s_rep, List.nil_append]
  have hloop := loop17 (E := E) t s hl (.rows false 4 [.agg [.int .u32 0, .int .u32 0, .int .u32 0, .int .u32 0]]) s.length 0 (List.replicate ((s.length + 3) / 4) 0) ((s.length + 3) / 4) (by omega) (by simp) (by omega)
  simp only [Int.cast_ofNat_Int, List.drop_zero] at hloop
  rw [hloop]
  have hlen : (bw s 0 (List.replicate ((s.length + 3) / 4) 0)).length = (s.length + 3) / 4 := by rw [bw_len]; simp
  have hap := fun (d : Nat) (os : List KO) (fr : Fr) (vars : Vars) => app_exact (E := E) (C := Call E) (d := d) (os := os) (fr := fr) (vars := vars) (H := [.rows false 1 (u32s (bw s 0 (List.replicate ((s.length + 3) / 4) 0)))]) (l := 0) (n := (s.length + 3) / 4) (esz := 1) (bytes := 4)
    (xs := u32s (bw s 0 (List.replicate ((s.length + 3) / 4) 0))) (f := true) (p := true) (ys := [.int .u32 (IntKind.u32.wrap s.length)]) rfl (by rw [u32s_len, hlen]) rfl (by simp [u32s_len, hlen, okLen]; omega) (by simp)
  have htw : u32s (bw s 0 (List.replicate ((s.length + 3) / 4) 0)) ++ [.int .u32 (IntKind.u32.wrap s.length)] = u32s (textW s) := by rw [textW, u32s_app]; rfl
  have htl : (textW s).length = (s.length + 3) / 4 + 1 := by simp [textW, hlen]
  simp only [htw, u32s_len, hlen, List.length_cons, List.length_nil, Nat.zero_add, List.cons_append, List.nil_append] at hap
  have hcall : deepE E (Call E) 14 [.int .u32 t, .own 1 ((s.length + 3) / 4 + 1) 0 ((s.length + 3) / 4 + 1)] [.rows false 1 (u32s (bw s 0 (List.replicate ((s.length + 3) / 4) 0))), .rows true 1 (u32s (textW s))] = some (words t (textW s)).s := by
    rw [← d_words14 h25 h9 h14 t false false (textW s) (by omega) [], deep_code h14 rfl, deep_code h14 rfl, deep_go, deep_go]
    rw [mapO_cons, mapO_cons, snapA_last (l := 1) (xs := u32s (textW s)) rfl (by rw [u32s_len, htl]) (u32s_atom _)]
    simp only [mapO_nil, mapO_cons, consO_some, snapA_int, snapA_list]
  simp only [Aa, Ab, Ac, Ad, Ae, Af, Ag, Ah, Ai, Aj, Ak, Al, Am, Ao, Ap, Aq, Ar, Au, Av, Aw, Ay, Az, Ba, Bb, Bc, Bd, Be, Bf, Bg, Bh, Bi, Bj, Bk, Bl, Bm, Bn, Bo, Bp, Bq, Br, Bs, Bt, Bv, Bw, Bx, Bz, Ca, Cb, Cc, Cd, Ce, Cf, Cg, Ch, Ci, Cj, Ck, Cl, Cm, Cn, Co, Cp, Cq, Cr, Cs, Ct, Cu, Cv, Cw, Cy, Cz, Da, Db, Dc, De, Df, Dg, Dh, Di, Dj, Dk, Dl, Dm, Dn, Option.map_some, Dp, Dq, Dr, Dt, Du, Dv, Dw, Dx, Dy, Dz, Ea, Eb, Ec, Ed, Ee, Ef, Eg, Eh, Ei, Ej, Ek, El, Em, Eo, Ep, Er, Es, Et, Eu, Ev, Ew, Ey, Ez, Fa, Fb, Fc, Fe, Ff, Fg, Fh, Fj, Fl, Fm, Fp, Fq, Fs, Ft, Fu, Fv, Fw, Fx, Fy, Fz, Ga, Gb, Gc, Gd, Ge, Gf, Gg, Gh, Gi, Gj, Nat.reduceEqDiff, Nat.reduceAdd, Nat.reduceMul, Nat.reduceLT, Nat.reduceLeDiff, ↓reduceIte, Ml, Mm, Nat.reduceBEq, Mn, Mo, Mp, Mq, reduceCtorEq, Mr, Ms, Gk, Gl, Gm, Gn, Gp, Gq, Gr, Gs, Gt, Gu, Gv, Gw, Gx, Gy, Gz, Ha, Hb, Hc, Hd, He, Hf, Hg, Hh, Hj, Hk, Hl, Hm, Hn, Ho, Hq, Hr, Hs, Ht, Hu, Hv, Hw, Hy, Hz, Ia, Ib, Ic, Ie, Ig, Ih, Ii, Ij, Ik, Il, Im, Io, Ip, Iq, Ir, Iu, Iv, Iw, Iy, Iz, Ja, Jb, Jc, Jd, Je, Jf, Jg, Jh, Ji, Jj, Jk, Jl, Jm, Jn, Jo, Jp, Jq, Jr, Js, Jt, Ju, Jv, Jw, Jy, Jz, Ka, Kb, Kc, Ke, Kf, Kg, Kh, Ki, Kj, Kk, Kl, Km, Kn, Ko, Kq, Kr, Ks, Kt, Ku, Kv, Kw, Kx, Ky, Kz, La, Lb, Lc, Ld, Le, Lf, Lg, Lh, Li, Lj, Ll, Lm, Ln, Lp, and_self, true_and, and_true, Mt, Mu, Mv, Mw, Mx, My, Mz, Na, Nb, Nc, Nd, Nf, Ng, Nh, Int.reduceToNat, Int.reduceLT, Int.reduceEq, Int.reduceLE, List.getElem?_cons_zero, List.getElem?_cons_succ, Lr, Ls, Lt, Ni, Nj, Nk, Nl, gt_iff_lt, ge_iff_le, Lu, Lv, Lw, Lx, Ly, Ma, Nn, Np, Mb, Mc, Md, Me, Mf, Mg, Mh, Mi, Mj, Mk, Nq, Nr, hap, op_call_deep _ _ h14 rfl, hcall, Q.s]

end Go.Proofs.Ytkafliflpplpeaa.Sim
namespace Go.Proofs.Ytkafliflpplpeaa.Sim
set_option linter.unusedSimpArgs false
set_option linter.unusedVariables false
open Go
set_option maxRecDepth 100000
set_option linter.unusedSimpArgs false

theorem or_nat (a b : Nat) (ha : a < 4294967296) (hb : b < 4294967296) : ibit .or .u32 (a : Int) (b : Int) = ((a ||| b : Nat) : Int) := by
  unfold ibit
  have h32 : IntKind.u32.bits = 32 := rfl
  have e : ∀ n : Nat, n < 4294967296 → (BitVec.ofInt IntKind.u32.bits (n : Int)).toNat = n := by
    intro n hn
    rw [h32]
    simp [BitVec.toNat_ofNat]
    omega
  have ho : a ||| b < 2 ^ 32 := Nat.or_lt_two_pow (by omega) (by omega)
  simp only [BitVec.toNat_or, e a ha, e b hb]
  exact wrap_u32 (by omega) (by omega)
theorem or_hi (a b r : Nat) (ha : a < 2 ^ r) (hb : 2 ^ r * b + a < 4294967296) : ibit .or .u32 ((2 ^ r * b : Nat) : Int) (a : Int) = ((2 ^ r * b + a : Nat) : Int) := by
  rw [or_nat _ _ (by omega) (by omega), Nat.two_pow_add_eq_or_of_lt ha]
theorem or_lo (a b r : Nat) (ha : a < 2 ^ r) (hb : 2 ^ r * b + a < 4294967296) : ibit .or .u32 (a : Int) ((2 ^ r * b : Nat) : Int) = ((2 ^ r * b + a : Nat) : Int) := by
  rw [or_nat _ _ (by omega) (by omega), Nat.or_comm, Nat.two_pow_add_eq_or_of_lt ha]
theorem ishl_nat (a n : Nat) (hn : n ≤ 32) (h : a * 2 ^ n < 4294967296) : ishl .u32 (a : Int) n = ((2 ^ n * a : Nat) : Int) := by
  unfold ishl
  have h32 : IntKind.u32.bits = 32 := rfl
  rw [h32, Nat.min_eq_left hn]
  have e : (a : Int) * 2 ^ n = ((2 ^ n * a : Nat) : Int) := by rw [Nat.mul_comm]; simp
  rw [e]
  rw [Nat.mul_comm] at h
  exact wrap_u32 (by omega) (by omega)

/-- a byte, none behind the end -/
def yb (s : List UInt8) (i : Nat) : Nat := (s.getD i 0).toNat
theorem yb_lt (s : List UInt8) (i : Nat) : yb s i < 256 := UInt8.toNat_lt _
def word (s : List UInt8) (j : Nat) : Nat := yb s (4 * j) + 256 * yb s (4 * j + 1) + 65536 * yb s (4 * j + 2) + 16777216 * yb s (4 * j + 3)
def M (s : List UInt8) (c : Nat) : List Int := (List.range c).map fun j => (word s j : Int)

/-- What byte by byte has come in, up to byte k. -/
def part (s : List UInt8) (k j : Nat) : Nat := (if 4 * j < k then yb s (4 * j) else 0) + 256 * (if 4 * j + 1 < k then yb s (4 * j + 1) else 0) + 65536 * (if 4 * j + 2 < k then yb s (4 * j + 2) else 0) + 16777216 * (if 4 * j + 3 < k then yb s (4 * j + 3) else 0)

theorem part_step (s : List UInt8) (k : Nat) (hk : k < s.length) : ibit .or .u32 (part s k (k / 4) : Int) (ishl .u32 (IntKind.u32.wrap (s[k].toNat : Int)) (8 * (k % 4))) = (part s (k + 1) (k / 4) : Int) := by
  have hb : s[k].toNat = yb s k := by simp [yb, List.getD, hk]
  have h0 := yb_lt s k
  have y0 := yb_lt s (4 * (k / 4)); have y1 := yb_lt s (4 * (k / 4) + 1); have y2 := yb_lt s (4 * (k / 4) + 2); have y3 := yb_lt s (4 * (k / 4) + 3)
  rw [hb, wrap_u32 (by omega) (by omega)]
  have hr : k % 4 = 0 ∨ k % 4 = 1 ∨ k % 4 = 2 ∨ k % 4 = 3 := by omega
  rcases hr with hr | hr | hr | hr
  · have e : k = 4 * (k / 4) := by omega
    rw [hr, ishl_nat _ _ (by omega) (by omega)]
    have p1 : part s k (k / 4) = 0 := by unfold part; rw [if_neg (by omega), if_neg (by omega), if_neg (by omega), if_neg (by omega)]
    have p2 : part s (k + 1) (k / 4) = yb s k := by unfold part; rw [if_pos (by omega), if_neg (by omega), if_neg (by omega), if_neg (by omega), ← e]; omega
    rw [p1, p2, or_nat _ _ (by omega) (by omega)]
    simp
  · have e : k = 4 * (k / 4) + 1 := by omega
    rw [hr, ishl_nat _ _ (by omega) (by omega)]
    have p1 : part s k (k / 4) = yb s (4 * (k / 4)) := by unfold part; rw [if_pos (by omega), if_neg (by omega), if_neg (by omega), if_neg (by omega)]; omega
    have p2 : part s (k + 1) (k / 4) = 2 ^ 8 * yb s k + yb s (4 * (k / 4)) := by unfold part; rw [if_pos (by omega), if_pos (by omega), if_neg (by omega), if_neg (by omega), ← e]; omega
    rw [p1, p2, or_lo _ _ 8 (by omega) (by omega)]
  · have e : k = 4 * (k / 4) + 2 := by omega
    rw [hr, ishl_nat _ _ (by omega) (by omega)]
    have p1 : part s k (k / 4) = yb s (4 * (k / 4)) + 256 * yb s (4 * (k / 4) + 1) := by unfold part; rw [if_pos (by omega), if_pos (by omega), if_neg (by omega), if_neg (by omega)]; omega
    have p2 : part s (k + 1) (k / 4) = 2 ^ 16 * yb s k + (yb s (4 * (k / 4)) + 256 * yb s (4 * (k / 4) + 1)) := by unfold part; rw [if_pos (by omega), if_pos (by omega), if_pos (by omega), if_neg (by omega), ← e]; omega
    rw [p1, p2, or_lo _ _ 16 (by omega) (by omega)]
  · have e : k = 4 * (k / 4) + 3 := by omega
    rw [hr, ishl_nat _ _ (by omega) (by omega)]
    have p1 : part s k (k / 4) = yb s (4 * (k / 4)) + 256 * yb s (4 * (k / 4) + 1) + 65536 * yb s (4 * (k / 4) + 2) := by unfold part; rw [if_pos (by omega), if_pos (by omega), if_pos (by omega), if_neg (by omega)]; omega
    have p2 : part s (k + 1) (k / 4) = 2 ^ 24 * yb s k + (yb s (4 * (k / 4)) + 256 * yb s (4 * (k / 4) + 1) + 65536 * yb s (4 * (k / 4) + 2)) := by unfold part; rw [if_pos (by omega), if_pos (by omega), if_pos (by omega), if_pos (by omega), ← e]; omega
    rw [p1, p2, or_lo _ _ 24 (by omega) (by omega)]

theorem part_other (s : List UInt8) (k j : Nat) (h : j ≠ k / 4) : part s (k + 1) j = part s k j := by
  have c : ∀ n, n < 4 → (4 * j + n < k + 1 ↔ 4 * j + n < k) := by intro n hn; omega
  have c0 : (4 * j < k + 1 ↔ 4 * j < k) := by omega
  unfold part
  simp only [c 1 (by omega), c 2 (by omega), c 3 (by omega), c0]

theorem bw_all (s : List UInt8) (c : Nat) (hc : s.length ≤ 4 * c) : ∀ (n k : Nat), s.length ≤ k + n → k ≤ s.length → bw (s.drop k) k ((List.range c).map fun j => (part s k j : Int)) = (List.range c).map fun j => (part s s.length j : Int) := by
  intro n
  induction n with
  | zero =>
    intro k h1 h2
    have : k = s.length := by omega
    subst this
    rw [List.drop_eq_nil_of_le (Nat.le_refl _)]
    rfl
  | succ n ih =>
    intro k h1 h2
    by_cases h : k < s.length
    · rw [List.drop_eq_getElem_cons h, bw]
      have hj : k / 4 < c := by omega
      have hg : ((List.range c).map fun j => (part s k j : Int)).getD (k / 4) 0 = (part s k (k / 4) : Int) := by simp [List.getD, hj]
      rw [hg, part_step s k h]
      have hs : ((List.range c).map fun j => (part s k j : Int)).set (k / 4) (part s (k + 1) (k / 4) : Int) = (List.range c).map fun j => (part s (k + 1) j : Int) := by
        apply List.ext_getElem?
        intro i
        by_cases hi : i = k / 4
        · subst hi
          rw [List.getElem?_set_self (by simpa using hj)]
          simp [hj]
        · rw [List.getElem?_set_ne (fun e => hi e.symm)]
          by_cases hc' : i < c
          · simp [hc', part_other s k i hi]
          · simp [hc']
      rw [hs]
      exact ih (k + 1) (by omega) (by omega)
    · have : k = s.length := by omega
      subst this
      rw [List.drop_eq_nil_of_le (Nat.le_refl _)]
      rfl

theorem yb_end (s : List UInt8) (i : Nat) (h : ¬ i < s.length) : yb s i = 0 := by
  simp [yb, List.getD, h]

theorem part_end (s : List UInt8) (j : Nat) : part s s.length j = word s j := by
  have e : ∀ i, (if i < s.length then yb s i else 0) = yb s i := by
    intro i
    split
    · rfl
    · rename_i h; rw [yb_end s i h]
  unfold part word
  simp only [e]

theorem textW_M (s : List UInt8) : textW s = M s ((s.length + 3) / 4) ++ [IntKind.u32.wrap s.length] := by
  unfold textW
  have h0 : List.replicate ((s.length + 3) / 4) (0 : Int) = (List.range ((s.length + 3) / 4)).map fun j => (part s 0 j : Int) := by
    apply List.ext_getElem?
    intro i
    by_cases h : i < (s.length + 3) / 4
    · simp [h, part]
    · simp [h]
  rw [h0]
  have := bw_all s ((s.length + 3) / 4) (by omega) s.length 0 (by omega) (by omega)
  rw [List.drop_zero] at this
  rw [this]
  simp only [part_end, M]

end Go.Proofs.Ytkafliflpplpeaa.Sim
namespace Go.Proofs.Ytkafliflpplpeaa.Sim
set_option linter.unusedSimpArgs false
set_option linter.unusedVariables false
open Go
set_option maxRecDepth 100000
set_option linter.unusedSimpArgs false

/-- A digit's number. -/
def hv (b : UInt8) : Option Nat := if 48 ≤ b ∧ b ≤ 57 then some (b.toNat - 48) else if 97 ≤ b ∧ b ≤ 102 then some (b.toNat - 87) else none

def pstep (ws : List Int) (k n : Nat) : List Int := ws.set (k / 8) (ibit .or .u32 (ishl .u32 (ws.getD (k / 8) 0) 4) n)
def pz : List UInt8 → Nat → List Int → Option (List Int)
  | [], _, ws => some ws
  | b :: r, k, ws => match hv b with
    | none => none
    | some n => pz r (k + 1) (pstep ws k n)

theorem pstep_len (ws k n) : (pstep ws k n).length = ws.length := by simp [pstep]

theorem hv_index (b : UInt8) : Lib.indexByte [48, 49, 50, 51, 52, 53, 54, 55, 56, 57, 97, 98, 99, 100, 101, 102] b = match hv b with | some n => (n : Int) | none => -1 := by
  have h : ∀ n < 256, Lib.indexByte [48, 49, 50, 51, 52, 53, 54, 55, 56, 57, 97, 98, 99, 100, 101, 102] (UInt8.ofNat n) = match hv (UInt8.ofNat n) with | some n => (n : Int) | none => -1 := by decide +kernel
  have := h b.toNat (UInt8.toNat_lt b)
  rwa [UInt8.ofNat_toNat] at this

theorem hv_lt (b : UInt8) (n : Nat) (h : hv b = some n) : n < 16 := by
  have hh : ∀ m < 256, ∀ n, hv (UInt8.ofNat m) = some n → n < 16 := by
    have : ∀ m < 256, (match hv (UInt8.ofNat m) with | some n => decide (n < 16) | none => true) = true := by decide +kernel
    intro m hm n hn
    have := this m hm
    rw [hn] at this
    simpa using this
  exact hh b.toNat (UInt8.toNat_lt b) n (by rwa [UInt8.ofNat_toNat])

theorem d_index24 {E : Env} (h24 : E 24 = some (.prim pIndexByte)) (s : List UInt8) (b : UInt8) (hp : Hp) : deepE E (Call E) 24 [.str s, .int .u8 (b.toNat : Int)] hp = some (.int .i64 (Lib.indexByte s b)) := by
  rw [deep_prim h24, deep_go]
  simp only [mapO_nil, mapO_cons, consO_some, snapA_int, snapA_str]
  have e : ((b.toNat : Int)).toNat.toUInt8 = b := by simp
  have := Call_prim (E := E) h24 [.str s, .int .u8 (b.toNat : Int)] []
  simp only [goD, this, pIndexByte, Option.map_some, e]
  rfl

theorem op24 {E : Env} (h24 : E 24 = some (.prim pIndexByte)) : ∃ g, E 24 = some g ∧ g.isDeep = true := ⟨_, h24, rfl⟩

theorem zero4 : u32s [0, 0, 0, 0] = [.int .u32 0, .int .u32 0, .int .u32 0, .int .u32 0] := rfl

theorem tdiv8 (k : Nat) (h : k < 1000) : IntKind.i64.wrap ((k : Int).tdiv 8) = ((k / 8 : Nat) : Int) := by
  rw [show ((k : Int).tdiv 8) = ((k / 8 : Nat) : Int) from rfl]
  exact wrap_i64 (by omega) (by omega)

theorem u32s_getD {ws : List Int} {j : Nat} (h : j < ws.length) : (u32s ws)[j]? = some (.int .u32 (ws.getD j 0)) := by
  simp [u32s, List.getD, h]

theorem loop7 {E : Env} (h24 : E 24 = some (.prim pIndexByte)) (s : List UInt8) (hs : s.length = 32) (b2 : Blk) (hb2 : b2 = .rows false 4 [.agg [.int .u32 0, .int .u32 0, .int .u32 0, .int .u32 0]]) : ∀ (n k : Nat) (ws : List Int), s.length = k + n → ws.length = 4 →
    match pz (s.drop k) k ws with
    | some ws' => blockR 0 [2, 4] (loopR E [0, 2, 4, 12, 13] l7_0 ⟨[(0, .str s), (2, .loc 2 0), (4, .loc 4 0), (12, .int .i64 32), (13, .int .i64 k)], [(2, b2), (4, .rows false 4 [.agg (u32s ws)])], []⟩) =
        some (.norm, ⟨[(2, .loc 2 0), (4, .loc 4 0)], [(2, b2), (4, .rows false 4 [.agg (u32s ws')])], []⟩)
    | none => ∃ st, blockR 0 [2, 4] (loopR E [0, 2, 4, 12, 13] l7_0 ⟨[(0, .str s), (2, .loc 2 0), (4, .loc 4 0), (12, .int .i64 32), (13, .int .i64 k)], [(2, b2), (4, .rows false 4 [.agg (u32s ws)])], []⟩) = some (.ret, st) ∧
        result st [.cell 2 true 4, .t 3] = some (.tup [.agg (u32s [0, 0, 0, 0]), .int .i64 7]) ∧ st.hp = [] := by
  subst hb2
  intro n
  induction n with
  | zero =>
    intro k ws hk hw
    have h1 : ¬ (k : Int) < 32 := by omega
    rw [List.drop_eq_nil_of_le (by omega), pz]
    simp only
    rw [loopR]
    conv => lhs; arg 3; arg 1; rw [l7_0]
    simp only [Aa, Ab, Ac, Ad, Ae, Af, Ag, Ah, Ai, Aj, Ak, Al, Am, Ao, Ap, Aq, Ar, Au, Av, Aw, Ay, Az, Ba, Bb, Bc, Bd, Be, Bf, Bg, Bh, Bi, Bj, Bk, Bl, Bm, Bn, Bo, Bp, Bq, Br, Bs, Bt, Bv, Bw, Bx, Bz, Ca, Cb, Cc, Cd, Ce, Cf, Cg, Ch, Ci, Cj, Ck, Cl, Cm, Cn, Co, Cp, Cq, Cr, Cs, Ct, Cu, Cv, Cw, Cy, Cz, Da, Db, Dc, De, Df, Dg, Dh, Di, Dj, Dk, Dl, Dm, Dn, Option.map_some, Dp, Dq, Dr, Dt, Du, Dv, Dw, Dx, Dy, Dz, Ea, Eb, Ec, Ed, Ee, Ef, Eg, Eh, Ei, Ej, Ek, El, Em, Eo, Ep, Er, Es, Et, Eu, Ev, Ew, Ey, Ez, Fa, Fb, Fc, Fe, Ff, Fg, Fh, Fj, Fl, Fm, Fp, Fq, Fs, Ft, Fu, Fv, Fw, Fx, Fy, Fz, Ga, Gb, Gc, Gd, Ge, Gf, Gg, Gh, Gi, Gj, Nat.reduceEqDiff, Nat.reduceAdd, Nat.reduceMul, Nat.reduceLT, Nat.reduceLeDiff, ↓reduceIte, Ml, Mm, Nat.reduceBEq, Mn, Mo, Mp, Mq, reduceCtorEq, Mr, Ms, Gk, Gl, Gm, Gn, Gp, Gq, Gr, Gs, Gt, Gu, Gv, Gw, Gx, Gy, Gz, Ha, Hb, Hc, Hd, He, Hf, Hg, Hh, Hj, Hk, Hl, Hm, Hn, Ho, Hq, Hr, Hs, Ht, Hu, Hv, Hw, Hy, Hz, Ia, Ib, Ic, Ie, Ig, Ih, Ii, Ij, Ik, Il, Im, Io, Ip, Iq, Ir, Iu, Iv, Iw, Iy, Iz, Ja, Jb, Jc, Jd, Je, Jf, Jg, Jh, Ji, Jj, Jk, Jl, Jm, Jn, Jo, Jp, Jq, Jr, Js, Jt, Ju, Jv, Jw, Jy, Jz, Ka, Kb, Kc, Ke, Kf, Kg, Kh, Ki, Kj, Kk, Kl, Km, Kn, Ko, Kq, Kr, Ks, Kt, Ku, Kv, Kw, Kx, Ky, Kz, La, Lb, Lc, Ld, Le, Lf, Lg, Lh, Li, Lj, Ll, Lm, Ln, Lp, and_self, true_and, and_true, Mt, Mu, Mv, Mw, Mx, My, Mz, Na, Nb, Nc, Nd, Nf, Ng, Nh, Int.reduceToNat, Int.reduceLT, Int.reduceEq, Int.reduceLE, List.getElem?_cons_zero, List.getElem?_cons_succ, Lr, Ls, Lt, Ni, Nj, Nk, Nl, gt_iff_lt, ge_iff_le, Lu, Lv, Lw, Lx, Ly, Ma, Nn, Np, Mb, Mc, Md, Me, Mf, Mg, Mh, Mi, Mj, Mk, Nq, Nr, h1, decide_false]
  | succ n ih =>
    intro k ws hk hw
    have hlt : k < s.length := by omega
    have h1 : (k : Int) < 32 := by omega
    have hg : s[k]? = some s[k] := List.getElem?_eq_getElem hlt
    have hi := hv_index s[k]
    rw [List.drop_eq_getElem_cons hlt, pz]
    cases hv' : hv s[k] with
    | none =>
      simp only
      rw [hv'] at hi
      rw [loopR]
      conv => congr; ext; lhs; lhs; arg 3; arg 1; rw [l7_0]
      simp only [Aa, Ab, Ac, Ad, Ae, Af, Ag, Ah, Ai, Aj, Ak, Al, Am, Ao, Ap, Aq, Ar, Au, Av, Aw, Ay, Az, Ba, Bb, Bc, Bd, Be, Bf, Bg, Bh, Bi, Bj, Bk, Bl, Bm, Bn, Bo, Bp, Bq, Br, Bs, Bt, Bv, Bw, Bx, Bz, Ca, Cb, Cc, Cd, Ce, Cf, Cg, Ch, Ci, Cj, Ck, Cl, Cm, Cn, Co, Cp, Cq, Cr, Cs, Ct, Cu, Cv, Cw, Cy, Cz, Da, Db, Dc, De, Df, Dg, Dh, Di, Dj, Dk, Dl, Dm, Dn, Option.map_some, Dp, Dq, Dr, Dt, Du, Dv, Dw, Dx, Dy, Dz, Ea, Eb, Ec, Ed, Ee, Ef, Eg, Eh, Ei, Ej, Ek, El, Em, Eo, Ep, Er, Es, Et, Eu, Ev, Ew, Ey, Ez, Fa, Fb, Fc, Fe, Ff, Fg, Fh, Fj, Fl, Fm, Fp, Fq, Fs, Ft, Fu, Fv, Fw, Fx, Fy, Fz, Ga, Gb, Gc, Gd, Ge, Gf, Gg, Gh, Gi, Gj, Nat.reduceEqDiff, Nat.reduceAdd, Nat.reduceMul, Nat.reduceLT, Nat.reduceLeDiff, ↓reduceIte, Ml, Mm, Nat.reduceBEq, Mn, Mo, Mp, Mq, reduceCtorEq, Mr, Ms, Gk, Gl, Gm, Gn, Gp, Gq, Gr, Gs, Gt, Gu, Gv, Gw, Gx, Gy, Gz, Ha, Hb, Hc, Hd, He, Hf, Hg, Hh, Hj, Hk, Hl, Hm, Hn, Ho, Hq, Hr, Hs, Ht, Hu, Hv, Hw, Hy, Hz, Ia, Ib, Ic, Ie, Ig, Ih, Ii, Ij, Ik, Il, Im, Io, Ip, Iq, Ir, Iu, Iv, Iw, Iy, Iz, Ja, Jb, Jc, Jd, Je, Jf, Jg, Jh, Ji, Jj, Jk, Jl, Jm, Jn, Jo, Jp, Jq, Jr, Js, Jt, Ju, Jv, Jw, Jy, Jz, Ka, Kb, Kc, Ke, Kf, Kg, Kh, Ki, Kj, Kk, Kl, Km, Kn, Ko, Kq, Kr, Ks, Kt, Ku, Kv, Kw, Kx, Ky, Kz, La, Lb, Lc, Ld, Le, Lf, Lg, Lh, Li, Lj, Ll, Lm, Ln, Lp, and_self, true_and, and_true, Mt, Mu, Mv, Mw, Mx, My, Mz, Na, Nb, Nc, Nd, Nf, Ng, Nh, Int.reduceToNat, Int.reduceLT, Int.reduceEq, Int.reduceLE, List.getElem?_cons_zero, List.getElem?_cons_succ, Lr, Ls, Lt, Ni, Nj, Nk, Nl, gt_iff_lt, ge_iff_le, Lu, Lv, Lw, Lx, Ly, Ma, Nn, Np, Mb, Mc, Md, Me, Mf, Mg, Mh, Mi, Mj, Mk, Nq, Nr, h1, decide_true, hg, op_call_deep _ _ h24 rfl, d_index24 h24, hi, Int.reduceNeg, decide_true, Int.reduceLT]
      exact ⟨_, rfl, rfl, rfl⟩
    | some m =>
      simp only
      rw [hv'] at hi
      have hm := hv_lt _ _ hv'
      have ih' := ih (k + 1) (pstep ws k m) (by omega) (by rw [pstep_len, hw])
      have h2 : ¬ (m : Int) < 0 := by omega
      have hq := tdiv8 k (by omega)
      have hj : k / 8 < ws.length := by omega
      have h3 : ((k / 8 : Nat) : Int) < 4 := by omega
      have hc := u32s_getD hj
      have h4 : k / 8 + 1 ≤ 4 := by omega
      have hw1 : IntKind.i64.wrap ((k : Int) + 1) = ((k + 1 : Nat) : Int) := wrap_i64 (by omega) (by omega)
      have hcm : IntKind.u32.wrap (m : Int) = m := wrap_u32 (by omega) (by omega)
      have hset : splice (u32s ws) (k / 8) [.int .u32 (ibit .or .u32 (ishl .u32 (ws.getD (k / 8) 0) 4) m)] = u32s (pstep ws k m) := by
        rw [splice_one _ _ _ (by rw [u32s_len]; exact hj)]
        simp [u32s, pstep, List.map_set]
      have key : blockR 0 [2, 4] (loopR E [0, 2, 4, 12, 13] l7_0 ⟨[(0, .str s), (2, .loc 2 0), (4, .loc 4 0), (12, .int .i64 32), (13, .int .i64 k)], [(2, .rows false 4 [.agg [.int .u32 0, .int .u32 0, .int .u32 0, .int .u32 0]]), (4, .rows false 4 [.agg (u32s ws)])], []⟩) =
          blockR 0 [2, 4] (loopR E [0, 2, 4, 12, 13] l7_0 ⟨[(0, .str s), (2, .loc 2 0), (4, .loc 4 0), (12, .int .i64 32), (13, .int .i64 ((k + 1 : Nat) : Int))], [(2, .rows false 4 [.agg [.int .u32 0, .int .u32 0, .int .u32 0, .int .u32 0]]), (4, .rows false 4 [.agg (u32s (pstep ws k m))])], []⟩) := by
        rw [loopR]
        conv => lhs; arg 3; arg 1; rw [l7_0]
        simp only [Aa, Ab, Ac, Ad, Ae, Af, Ag, Ah, Ai, Aj, Ak, Al, Am, Ao, Ap, Aq, Ar, Au, Av, Aw, Ay, Az, Ba, Bb, Bc, Bd, Be, Bf, Bg, Bh, Bi, Bj, Bk, Bl, Bm, Bn, Bo, Bp, Bq, Br, Bs, Bt, Bv, Bw, Bx, Bz, Ca, Cb, Cc, Cd, Ce, Cf, Cg, Ch, Ci, Cj, Ck, Cl, Cm, Cn, Co, Cp, Cq, Cr, Cs, Ct, Cu, Cv, Cw, Cy, Cz, Da, Db, Dc, De, Df, Dg, Dh, Di, Dj, Dk, Dl, Dm, Dn, Option.map_some, Dp, Dq, Dr, Dt, Du, Dv, Dw, Dx, Dy, Dz, Ea, Eb, Ec, Ed, Ee, Ef, Eg, Eh, Ei, Ej, Ek, El, Em, Eo, Ep, Er, Es, Et, Eu, Ev, Ew, Ey, Ez, Fa, Fb, Fc, Fe, Ff, Fg, Fh, Fj, Fl, Fm, Fp, Fq, Fs, Ft, Fu, Fv, Fw, Fx, Fy, Fz, Ga, Gb, Gc, Gd, Ge, Gf, Gg, Gh, Gi, Gj, Nat.reduceEqDiff, Nat.reduceAdd, Nat.reduceMul, Nat.reduceLT, Nat.reduceLeDiff, ↓reduceIte, Ml, Mm, Nat.reduceBEq, Mn, Mo, Mp, Mq, reduceCtorEq, Mr, Ms, Gk, Gl, Gm, Gn, Gp, Gq, Gr, Gs, Gt, Gu, Gv, Gw, Gx, Gy, Gz, Ha, Hb, Hc, Hd, He, Hf, Hg, Hh, Hj, Hk, Hl, Hm, Hn, Ho, Hq, Hr, Hs, Ht, Hu, Hv, Hw, Hy, Hz, Ia, Ib, Ic, Ie, Ig, Ih, Ii, Ij, Ik, Il, Im, Io, Ip, Iq, Ir, Iu, Iv, Iw, Iy, Iz, Ja, Jb, Jc, Jd, Je, Jf, Jg, Jh, Ji, Jj, Jk, Jl, Jm, Jn, Jo, Jp, Jq, Jr, Js, Jt, Ju, Jv, Jw, Jy, Jz, Ka, Kb, Kc, Ke, Kf, Kg, Kh, Ki, Kj, Kk, Kl, Km, Kn, Ko, Kq, Kr, Ks, Kt, Ku, Kv, Kw, Kx, Ky, Kz, La, Lb, Lc, Ld, Le, Lf, Lg, Lh, Li, Lj, Ll, Lm, Ln, Lp, and_self, true_and, and_true, Mt, Mu, Mv, Mw, Mx, My, Mz, Na, Nb, Nc, Nd, Nf, Ng, Nh, Int.reduceToNat, Int.reduceLT, Int.reduceEq, Int.reduceLE, List.getElem?_cons_zero, List.getElem?_cons_succ, Lr, Ls, Lt, Ni, Nj, Nk, Nl, gt_iff_lt, ge_iff_le, Lu, Lv, Lw, Lx, Ly, Ma, Nn, Np, Mb, Mc, Md, Me, Mf, Mg, Mh, Mi, Mj, Mk, Nq, Nr, h1, decide_true, hg, op_call_deep _ _ h24 rfl, d_index24 h24, hi, h2, decide_false, hq, h3, hc, h4, hw1, hcm, mk_one, hset]
      rw [key]
      exact ih'
/-- What Parse answers. -/
def parseS (s : List UInt8) : S :=
  if s.length = 32 then match pz s 0 [0, 0, 0, 0] with | some ws => .tup [.agg (u32s ws), .int .i64 0] | none => .tup [.agg (u32s [0, 0, 0, 0]), .int .i64 7]
  else .tup [.agg (u32s [0, 0, 0, 0]), .int .i64 7]

theorem pz_len : ∀ (s : List UInt8) (k : Nat) (ws ws' : List Int), pz s k ws = some ws' → ws'.length = ws.length
  | [], _, ws, ws', h => by simp only [pz, Option.some.injEq] at h; rw [h]
  | b :: r, k, ws, ws', h => by
    simp only [pz] at h
    split at h
    · cases h
    · rw [pz_len r _ _ _ h, pstep_len]

theorem snap_tup4 (ws : List Int) (e : Int) (hp : Hp) : snapR hp (.tup [.agg (u32s ws), .int .i64 e]) = some (.tup [.agg (u32s ws), .int .i64 e]) := by
  simp only [snapR, mapO]
  rw [depth, rowBy_atom (x := .agg (u32s ws)) (by simp [S.atomR, u32s, S.atom])]
  rfl

theorem mapO_u32s (p hp) (ws : List Int) : mapO (snapC p hp depth) (u32s ws) = some (u32s ws) := by
  refine mapO_id fun x hx => ?_
  simp only [u32s, List.mem_map] at hx
  obtain ⟨n, _, rfl⟩ := hx
  exact snapC_atom rfl p hp 5

theorem out_tup4 (ws : List Int) (e : Int) : S.outable (.tup [.agg (u32s ws), .int .i64 e]) = true := rfl

theorem d_parse7 {E : Env} (h24 : E 24 = some (.prim pIndexByte)) (h7 : E 7 = some (.code c7)) (s : List UInt8) (hs : s.length ≤ 140737488351232) (hp : Hp) : deepE E (Call E) 7 [.str s] hp = some (parseS s) := by
  rw [deep_code h7 rfl, deep_go]
  simp only [mapO_nil, mapO_cons, consO_some, snapA_str, goD_some]
  rw [Call_mk E h7 _ _ rfl]
  by_cases h : s.length = 32
  · have hl := loop7 h24 s h _ rfl 32 0 [0, 0, 0, 0] (by omega) rfl
    rw [List.drop_zero] at hl
    unfold parseS
    rw [if_pos h]
    have h32 : ((s.length : Nat) : Int) = 32 := by omega
    cases hz : pz s 0 [0, 0, 0, 0] with
    | some ws =>
      rw [hz] at hl
      simp only [zero4, Int.cast_ofNat_Int] at hl
      have h4 := pz_len _ _ _ _ hz
      have htk : List.take 4 (u32s ws) = u32s ws := by rw [List.take_of_length_le]; rw [u32s_len, h4]; exact Nat.le_refl _
      have hsp : splice [S.int .u32 0, S.int .u32 0, S.int .u32 0, S.int .u32 0] 0 (u32s ws) = u32s ws := splice_all _ _ (by rw [u32s_len, h4]; rfl)
      have hok : (u32s ws).all S.okv = true := by simp [u32s, S.okv]
      have hlen : (u32s ws).length = 4 := by rw [u32s_len, h4]; rfl
      simp only [Aa, Ab, Ac, Ad, Ae, Af, Ag, Ah, Ai, Aj, Ak, Al, Am, Ao, Ap, Aq, Ar, Au, Av, Aw, Ay, Az, Ba, Bb, Bc, Bd, Be, Bf, Bg, Bh, Bi, Bj, Bk, Bl, Bm, Bn, Bo, Bp, Bq, Br, Bs, Bt, Bv, Bw, Bx, Bz, Ca, Cb, Cc, Cd, Ce, Cf, Cg, Ch, Ci, Cj, Ck, Cl, Cm, Cn, Co, Cp, Cq, Cr, Cs, Ct, Cu, Cv, Cw, Cy, Cz, Da, Db, Dc, De, Df, Dg, Dh, Di, Dj, Dk, Dl, Dm, Dn, Option.map_some, Dp, Dq, Dr, Dt, Du, Dv, Dw, Dx, Dy, Dz, Ea, Eb, Ec, Ed, Ee, Ef, Eg, Eh, Ei, Ej, Ek, El, Em, Eo, Ep, Er, Es, Et, Eu, Ev, Ew, Ey, Ez, Fa, Fb, Fc, Fe, Ff, Fg, Fh, Fj, Fl, Fm, Fp, Fq, Fs, Ft, Fu, Fv, Fw, Fx, Fy, Fz, Ga, Gb, Gc, Gd, Ge, Gf, Gg, Gh, Gi, Gj, Nat.reduceEqDiff, Nat.reduceAdd, Nat.reduceMul, Nat.reduceLT, Nat.reduceLeDiff, ↓reduceIte, Ml, Mm, Nat.reduceBEq, Mn, Mo, Mp, Mq, reduceCtorEq, Mr, Ms, Gk, Gl, Gm, Gn, Gp, Gq, Gr, Gs, Gt, Gu, Gv, Gw, Gx, Gy, Gz, Ha, Hb, Hc, Hd, He, Hf, Hg, Hh, Hj, Hk, Hl, Hm, Hn, Ho, Hq, Hr, Hs, Ht, Hu, Hv, Hw, Hy, Hz, Ia, Ib, Ic, Ie, Ig, Ih, Ii, Ij, Ik, Il, Im, Io, Ip, Iq, Ir, Iu, Iv, Iw, Iy, Iz, Ja, Jb, Jc, Jd, Je, Jf, Jg, Jh, Ji, Jj, Jk, Jl, Jm, Jn, Jo, Jp, Jq, Jr, Js, Jt, Ju, Jv, Jw, Jy, Jz, Ka, Kb, Kc, Ke, Kf, Kg, Kh, Ki, Kj, Kk, Kl, Km, Kn, Ko, Kq, Kr, Ks, Kt, Ku, Kv, Kw, Kx, Ky, Kz, La, Lb, Lc, Ld, Le, Lf, Lg, Lh, Li, Lj, Ll, Lm, Ln, Lp, and_self, true_and, and_true, Mt, Mu, Mv, Mw, Mx, My, Mz, Na, Nb, Nc, Nd, Nf, Ng, Nh, Int.reduceToNat, Int.reduceLT, Int.reduceEq, Int.reduceLE, List.getElem?_cons_zero, List.getElem?_cons_succ, Lr, Ls, Lt, Ni, Nj, Nk, Nl, gt_iff_lt, ge_iff_le, Lu, Lv, Lw, Lx, Ly, Ma, Nn, Np, Mb, Mc, Md, Me, Mf, Mg, Mh, Mi, Mj, Mk, Nq, Nr, h32, ne_eq, not_true_eq_false, decide_false, h24, zero4]
      rw [hl]
      simp only [Aa, Ab, Ac, Ad, Ae, Af, Ag, Ah, Ai, Aj, Ak, Al, Am, Ao, Ap, Aq, Ar, Au, Av, Aw, Ay, Az, Ba, Bb, Bc, Bd, Be, Bf, Bg, Bh, Bi, Bj, Bk, Bl, Bm, Bn, Bo, Bp, Bq, Br, Bs, Bt, Bv, Bw, Bx, Bz, Ca, Cb, Cc, Cd, Ce, Cf, Cg, Ch, Ci, Cj, Ck, Cl, Cm, Cn, Co, Cp, Cq, Cr, Cs, Ct, Cu, Cv, Cw, Cy, Cz, Da, Db, Dc, De, Df, Dg, Dh, Di, Dj, Dk, Dl, Dm, Dn, Option.map_some, Dp, Dq, Dr, Dt, Du, Dv, Dw, Dx, Dy, Dz, Ea, Eb, Ec, Ed, Ee, Ef, Eg, Eh, Ei, Ej, Ek, El, Em, Eo, Ep, Er, Es, Et, Eu, Ev, Ew, Ey, Ez, Fa, Fb, Fc, Fe, Ff, Fg, Fh, Fj, Fl, Fm, Fp, Fq, Fs, Ft, Fu, Fv, Fw, Fx, Fy, Fz, Ga, Gb, Gc, Gd, Ge, Gf, Gg, Gh, Gi, Gj, Nat.reduceEqDiff, Nat.reduceAdd, Nat.reduceMul, Nat.reduceLT, Nat.reduceLeDiff, ↓reduceIte, Ml, Mm, Nat.reduceBEq, Mn, Mo, Mp, Mq, reduceCtorEq, Mr, Ms, Gk, Gl, Gm, Gn, Gp, Gq, Gr, Gs, Gt, Gu, Gv, Gw, Gx, Gy, Gz, Ha, Hb, Hc, Hd, He, Hf, Hg, Hh, Hj, Hk, Hl, Hm, Hn, Ho, Hq, Hr, Hs, Ht, Hu, Hv, Hw, Hy, Hz, Ia, Ib, Ic, Ie, Ig, Ih, Ii, Ij, Ik, Il, Im, Io, Ip, Iq, Ir, Iu, Iv, Iw, Iy, Iz, Ja, Jb, Jc, Jd, Je, Jf, Jg, Jh, Ji, Jj, Jk, Jl, Jm, Jn, Jo, Jp, Jq, Jr, Js, Jt, Ju, Jv, Jw, Jy, Jz, Ka, Kb, Kc, Ke, Kf, Kg, Kh, Ki, Kj, Kk, Kl, Km, Kn, Ko, Kq, Kr, Ks, Kt, Ku, Kv, Kw, Kx, Ky, Kz, La, Lb, Lc, Ld, Le, Lf, Lg, Lh, Li, Lj, Ll, Lm, Ln, Lp, and_self, true_and, and_true, Mt, Mu, Mv, Mw, Mx, My, Mz, Na, Nb, Nc, Nd, Nf, Ng, Nh, Int.reduceToNat, Int.reduceLT, Int.reduceEq, Int.reduceLE, List.getElem?_cons_zero, List.getElem?_cons_succ, Lr, Ls, Lt, Ni, Nj, Nk, Nl, gt_iff_lt, ge_iff_le, Lu, Lv, Lw, Lx, Ly, Ma, Nn, Np, Mb, Mc, Md, Me, Mf, Mg, Mh, Mi, Mj, Mk, Nq, Nr, htk, hsp, hok, hlen, result, result.mapO', resV, loadR, cellsAt_eq, Option.bind_some, Option.map_some, mk, snap_tup4, out_tup4]
      rw [mapO_u32s]
      rfl
    | none =>
      rw [hz] at hl
      simp only [zero4, Int.cast_ofNat_Int] at hl
      obtain ⟨st, h2, h3, h4⟩ := hl
      simp only [Aa, Ab, Ac, Ad, Ae, Af, Ag, Ah, Ai, Aj, Ak, Al, Am, Ao, Ap, Aq, Ar, Au, Av, Aw, Ay, Az, Ba, Bb, Bc, Bd, Be, Bf, Bg, Bh, Bi, Bj, Bk, Bl, Bm, Bn, Bo, Bp, Bq, Br, Bs, Bt, Bv, Bw, Bx, Bz, Ca, Cb, Cc, Cd, Ce, Cf, Cg, Ch, Ci, Cj, Ck, Cl, Cm, Cn, Co, Cp, Cq, Cr, Cs, Ct, Cu, Cv, Cw, Cy, Cz, Da, Db, Dc, De, Df, Dg, Dh, Di, Dj, Dk, Dl, Dm, Dn, Option.map_some, Dp, Dq, Dr, Dt, Du, Dv, Dw, Dx, Dy, Dz, Ea, Eb, Ec, Ed, Ee, Ef, Eg, Eh, Ei, Ej, Ek, El, Em, Eo, Ep, Er, Es, Et, Eu, Ev, Ew, Ey, Ez, Fa, Fb, Fc, Fe, Ff, Fg, Fh, Fj, Fl, Fm, Fp, Fq, Fs, Ft, Fu, Fv, Fw, Fx, Fy, Fz, Ga, Gb, Gc, Gd, Ge, Gf, Gg, Gh, Gi, Gj, Nat.reduceEqDiff, Nat.reduceAdd, Nat.reduceMul, Nat.reduceLT, Nat.reduceLeDiff, ↓reduceIte, Ml, Mm, Nat.reduceBEq, Mn, Mo, Mp, Mq, reduceCtorEq, Mr, Ms, Gk, Gl, Gm, Gn, Gp, Gq, Gr, Gs, Gt, Gu, Gv, Gw, Gx, Gy, Gz, Ha, Hb, Hc, Hd, He, Hf, Hg, Hh, Hj, Hk, Hl, Hm, Hn, Ho, Hq, Hr, Hs, Ht, Hu, Hv, Hw, Hy, Hz, Ia, Ib, Ic, Ie, Ig, Ih, Ii, Ij, Ik, Il, Im, Io, Ip, Iq, Ir, Iu, Iv, Iw, Iy, Iz, Ja, Jb, Jc, Jd, Je, Jf, Jg, Jh, Ji, Jj, Jk, Jl, Jm, Jn, Jo, Jp, Jq, Jr, Js, Jt, Ju, Jv, Jw, Jy, Jz, Ka, Kb, Kc, Ke, Kf, Kg, Kh, Ki, Kj, Kk, Kl, Km, Kn, Ko, Kq, Kr, Ks, Kt, Ku, Kv, Kw, Kx, Ky, Kz, La, Lb, Lc, Ld, Le, Lf, Lg, Lh, Li, Lj, Ll, Lm, Ln, Lp, and_self, true_and, and_true, Mt, Mu, Mv, Mw, Mx, My, Mz, Na, Nb, Nc, Nd, Nf, Ng, Nh, Int.reduceToNat, Int.reduceLT, Int.reduceEq, Int.reduceLE, List.getElem?_cons_zero, List.getElem?_cons_succ, Lr, Ls, Lt, Ni, Nj, Nk, Nl, gt_iff_lt, ge_iff_le, Lu, Lv, Lw, Lx, Ly, Ma, Nn, Np, Mb, Mc, Md, Me, Mf, Mg, Mh, Mi, Mj, Mk, Nq, Nr, h32, ne_eq, not_true_eq_false, decide_false, h24]
      rw [h2]
      simp only [Aa, Ab, Ac, Ad, Ae, Af, Ag, Ah, Ai, Aj, Ak, Al, Am, Ao, Ap, Aq, Ar, Au, Av, Aw, Ay, Az, Ba, Bb, Bc, Bd, Be, Bf, Bg, Bh, Bi, Bj, Bk, Bl, Bm, Bn, Bo, Bp, Bq, Br, Bs, Bt, Bv, Bw, Bx, Bz, Ca, Cb, Cc, Cd, Ce, Cf, Cg, Ch, Ci, Cj, Ck, Cl, Cm, Cn, Co, Cp, Cq, Cr, Cs, Ct, Cu, Cv, Cw, Cy, Cz, Da, Db, Dc, De, Df, Dg, Dh, Di, Dj, Dk, Dl, Dm, Dn, Option.map_some, Dp, Dq, Dr, Dt, Du, Dv, Dw, Dx, Dy, Dz, Ea, Eb, Ec, Ed, Ee, Ef, Eg, Eh, Ei, Ej, Ek, El, Em, Eo, Ep, Er, Es, Et, Eu, Ev, Ew, Ey, Ez, Fa, Fb, Fc, Fe, Ff, Fg, Fh, Fj, Fl, Fm, Fp, Fq, Fs, Ft, Fu, Fv, Fw, Fx, Fy, Fz, Ga, Gb, Gc, Gd, Ge, Gf, Gg, Gh, Gi, Gj, Nat.reduceEqDiff, Nat.reduceAdd, Nat.reduceMul, Nat.reduceLT, Nat.reduceLeDiff, ↓reduceIte, Ml, Mm, Nat.reduceBEq, Mn, Mo, Mp, Mq, reduceCtorEq, Mr, Ms, Gk, Gl, Gm, Gn, Gp, Gq, Gr, Gs, Gt, Gu, Gv, Gw, Gx, Gy, Gz, Ha, Hb, Hc, Hd, He, Hf, Hg, Hh, Hj, Hk, Hl, Hm, Hn, Ho, Hq, Hr, Hs, Ht, Hu, Hv, Hw, Hy, Hz, Ia, Ib, Ic, Ie, Ig, Ih, Ii, Ij, Ik, Il, Im, Io, Ip, Iq, Ir, Iu, Iv, Iw, Iy, Iz, Ja, Jb, Jc, Jd, Je, Jf, Jg, Jh, Ji, Jj, Jk, Jl, Jm, Jn, Jo, Jp, Jq, Jr, Js, Jt, Ju, Jv, Jw, Jy, Jz, Ka, Kb, Kc, Ke, Kf, Kg, Kh, Ki, Kj, Kk, Kl, Km, Kn, Ko, Kq, Kr, Ks, Kt, Ku, Kv, Kw, Kx, Ky, Kz, La, Lb, Lc, Ld, Le, Lf, Lg, Lh, Li, Lj, Ll, Lm, Ln, Lp, and_self, true_and, and_true, Mt, Mu, Mv, Mw, Mx, My, Mz, Na, Nb, Nc, Nd, Nf, Ng, Nh, Int.reduceToNat, Int.reduceLT, Int.reduceEq, Int.reduceLE, List.getElem?_cons_zero, List.getElem?_cons_succ, Lr, Ls, Lt, Ni, Nj, Nk, Nl, gt_iff_lt, ge_iff_le, Lu, Lv, Lw, Lx, Ly, Ma, Nn, Np, Mb, Mc, Md, Me, Mf, Mg, Mh, Mi, Mj, Mk, Nq, Nr, h3, h4]
      rfl
  · have h1 : ¬ ((s.length : Int) = 32) := by omega
    unfold parseS
    rw [if_neg h]
    simp only [Aa, Ab, Ac, Ad, Ae, Af, Ag, Ah, Ai, Aj, Ak, Al, Am, Ao, Ap, Aq, Ar, Au, Av, Aw, Ay, Az, Ba, Bb, Bc, Bd, Be, Bf, Bg, Bh, Bi, Bj, Bk, Bl, Bm, Bn, Bo, Bp, Bq, Br, Bs, Bt, Bv, Bw, Bx, Bz, Ca, Cb, Cc, Cd, Ce, Cf, Cg, Ch, Ci, Cj, Ck, Cl, Cm, Cn, Co, Cp, Cq, Cr, Cs, Ct, Cu, Cv, Cw, Cy, Cz, Da, Db, Dc, De, Df, Dg, Dh, Di, Dj, Dk, Dl, Dm, Dn, Option.map_some, Dp, Dq, Dr, Dt, Du, Dv, Dw, Dx, Dy, Dz, Ea, Eb, Ec, Ed, Ee, Ef, Eg, Eh, Ei, Ej, Ek, El, Em, Eo, Ep, Er, Es, Et, Eu, Ev, Ew, Ey, Ez, Fa, Fb, Fc, Fe, Ff, Fg, Fh, Fj, Fl, Fm, Fp, Fq, Fs, Ft, Fu, Fv, Fw, Fx, Fy, Fz, Ga, Gb, Gc, Gd, Ge, Gf, Gg, Gh, Gi, Gj, Nat.reduceEqDiff, Nat.reduceAdd, Nat.reduceMul, Nat.reduceLT, Nat.reduceLeDiff, ↓reduceIte, Ml, Mm, Nat.reduceBEq, Mn, Mo, Mp, Mq, reduceCtorEq, Mr, Ms, Gk, Gl, Gm, Gn, Gp, Gq, Gr, Gs, Gt, Gu, Gv, Gw, Gx, Gy, Gz, Ha, Hb, Hc, Hd, He, Hf, Hg, Hh, Hj, Hk, Hl, Hm, Hn, Ho, Hq, Hr, Hs, Ht, Hu, Hv, Hw, Hy, Hz, Ia, Ib, Ic, Ie, Ig, Ih, Ii, Ij, Ik, Il, Im, Io, Ip, Iq, Ir, Iu, Iv, Iw, Iy, Iz, Ja, Jb, Jc, Jd, Je, Jf, Jg, Jh, Ji, Jj, Jk, Jl, Jm, Jn, Jo, Jp, Jq, Jr, Js, Jt, Ju, Jv, Jw, Jy, Jz, Ka, Kb, Kc, Ke, Kf, Kg, Kh, Ki, Kj, Kk, Kl, Km, Kn, Ko, Kq, Kr, Ks, Kt, Ku, Kv, Kw, Kx, Ky, Kz, La, Lb, Lc, Ld, Le, Lf, Lg, Lh, Li, Lj, Ll, Lm, Ln, Lp, and_self, true_and, and_true, Mt, Mu, Mv, Mw, Mx, My, Mz, Na, Nb, Nc, Nd, Nf, Ng, Nh, Int.reduceToNat, Int.reduceLT, Int.reduceEq, Int.reduceLE, List.getElem?_cons_zero, List.getElem?_cons_succ, Lr, Ls, Lt, Ni, Nj, Nk, Nl, gt_iff_lt, ge_iff_le, Lu, Lv, Lw, Lx, Ly, Ma, Nn, Np, Mb, Mc, Md, Me, Mf, Mg, Mh, Mi, Mj, Mk, Nq, Nr, ne_eq, h1, not_false_eq_true, decide_true]
    rfl

theorem hv_digit (b : UInt8) : (48 ≤ b.toNat ∧ b.toNat ≤ 57 → hv b = some (b.toNat - 48)) ∧ (¬ (48 ≤ b.toNat ∧ b.toNat ≤ 57) → (97 ≤ b.toNat ∧ b.toNat ≤ 102) → hv b = some (b.toNat - 87)) ∧ (¬ (48 ≤ b.toNat ∧ b.toNat ≤ 57) → ¬ (97 ≤ b.toNat ∧ b.toNat ≤ 102) → hv b = none) := by
  have e1 : (48 ≤ b ∧ b ≤ 57) ↔ (48 ≤ b.toNat ∧ b.toNat ≤ 57) := by simp [UInt8.le_iff_toNat_le]
  have e2 : (97 ≤ b ∧ b ≤ 102) ↔ (97 ≤ b.toNat ∧ b.toNat ≤ 102) := by simp [UInt8.le_iff_toNat_le]
  refine ⟨fun h => ?_, fun h g => ?_, fun h g => ?_⟩
  · rw [hv, if_pos (e1.2 h)]
  · rw [hv, if_neg (fun x => h (e1.1 x)), if_pos (e2.2 g)]
  · rw [hv, if_neg (fun x => h (e1.1 x)), if_neg (fun x => g (e2.1 x))]

theorem loop11 {E : Env} (s : List UInt8) (hs : s.length = 32) (b2 : Blk) (hb2 : b2 = .rows false 4 [.agg [.int .u32 0, .int .u32 0, .int .u32 0, .int .u32 0]]) : ∀ (n k : Nat) (ws : List Int), s.length = k + n → ws.length = 4 →
    match pz (s.drop k) k ws with
    | some ws' => blockR 0 [2, 4] (loopR E [0, 2, 4, 5] l11_0 ⟨[(0, .str s), (2, .loc 2 0), (4, .loc 4 0), (5, .int .i64 k)], [(2, b2), (4, .rows false 4 [.agg (u32s ws)])], []⟩) =
        some (.norm, ⟨[(2, .loc 2 0), (4, .loc 4 0)], [(2, b2), (4, .rows false 4 [.agg (u32s ws')])], []⟩)
    | none => ∃ st, blockR 0 [2, 4] (loopR E [0, 2, 4, 5] l11_0 ⟨[(0, .str s), (2, .loc 2 0), (4, .loc 4 0), (5, .int .i64 k)], [(2, b2), (4, .rows false 4 [.agg (u32s ws)])], []⟩) = some (.ret, st) ∧
        result st [.cell 2 true 4, .t 3] = some (.tup [.agg (u32s [0, 0, 0, 0]), .int .i64 7]) ∧ st.hp = [] := by
  subst hb2
  intro n
  induction n with
  | zero =>
    intro k ws hk hw
    have h1 : ¬ (k : Int) < 32 := by omega
    rw [List.drop_eq_nil_of_le (by omega), pz]
    simp only
    rw [loopR]
    conv => lhs; arg 3; arg 1; rw [l11_0]
    simp only [Aa, Ab, Ac, Ad, Ae, Af, Ag, Ah, Ai, Aj, Ak, Al, Am, Ao, Ap, Aq, Ar, Au, Av, Aw, Ay, Az, Ba, Bb, Bc, Bd, Be, Bf, Bg, Bh, Bi, Bj, Bk, Bl, Bm, Bn, Bo, Bp, Bq, Br, Bs, Bt, Bv, Bw, Bx, Bz, Ca, Cb, Cc, Cd, Ce, Cf, Cg, Ch, Ci, Cj, Ck, Cl, Cm, Cn, Co, Cp, Cq, Cr, Cs, Ct, Cu, Cv, Cw, Cy, Cz, Da, Db, Dc, De, Df, Dg, Dh, Di, Dj, Dk, Dl, Dm, Dn, Option.map_some, Dp, Dq, Dr, Dt, Du, Dv, Dw, Dx, Dy, Dz, Ea, Eb, Ec, Ed, Ee, Ef, Eg, Eh, Ei, Ej, Ek, El, Em, Eo, Ep, Er, Es, Et, Eu, Ev, Ew, Ey, Ez, Fa, Fb, Fc, Fe, Ff, Fg, Fh, Fj, Fl, Fm, Fp, Fq, Fs, Ft, Fu, Fv, Fw, Fx, Fy, Fz, Ga, Gb, Gc, Gd, Ge, Gf, Gg, Gh, Gi, Gj, Nat.reduceEqDiff, Nat.reduceAdd, Nat.reduceMul, Nat.reduceLT, Nat.reduceLeDiff, ↓reduceIte, Ml, Mm, Nat.reduceBEq, Mn, Mo, Mp, Mq, reduceCtorEq, Mr, Ms, Gk, Gl, Gm, Gn, Gp, Gq, Gr, Gs, Gt, Gu, Gv, Gw, Gx, Gy, Gz, Ha, Hb, Hc, Hd, He, Hf, Hg, Hh, Hj, Hk, Hl, Hm, Hn, Ho, Hq, Hr, Hs, Ht, Hu, Hv, Hw, Hy, Hz, Ia, Ib, Ic, Ie, Ig, Ih, Ii, Ij, Ik, Il, Im, Io, Ip, Iq, Ir, Iu, Iv, Iw, Iy, Iz, Ja, Jb, Jc, Jd, Je, Jf, Jg, Jh, Ji, Jj, Jk, Jl, Jm, Jn, Jo, Jp, Jq, Jr, Js, Jt, Ju, Jv, Jw, Jy, Jz, Ka, Kb, Kc, Ke, Kf, Kg, Kh, Ki, Kj, Kk, Kl, Km, Kn, Ko, Kq, Kr, Ks, Kt, Ku, Kv, Kw, Kx, Ky, Kz, La, Lb, Lc, Ld, Le, Lf, Lg, Lh, Li, Lj, Ll, Lm, Ln, Lp, and_self, true_and, and_true, Mt, Mu, Mv, Mw, Mx, My, Mz, Na, Nb, Nc, Nd, Nf, Ng, Nh, Int.reduceToNat, Int.reduceLT, Int.reduceEq, Int.reduceLE, List.getElem?_cons_zero, List.getElem?_cons_succ, Lr, Ls, Lt, Ni, Nj, Nk, Nl, gt_iff_lt, ge_iff_le, Lu, Lv, Lw, Lx, Ly, Ma, Nn, Np, Mb, Mc, Md, Me, Mf, Mg, Mh, Mi, Mj, Mk, Nq, Nr, h1, decide_false]
  | succ n ih =>
    intro k ws hk hw
    have hlt : k < s.length := by omega
    have h1 : (k : Int) < 32 := by omega
    have hg : s[k]? = some s[k] := List.getElem?_eq_getElem hlt
    obtain ⟨v1, v2, v3⟩ := hv_digit s[k]
    rw [List.drop_eq_getElem_cons hlt, pz]
    have hb := UInt8.toNat_lt s[k]
    by_cases hd : 48 ≤ s[k].toNat ∧ s[k].toNat ≤ 57
    · have c1 : (48 : Int) ≤ (s[k].toNat : Int) := by omega
      have c2 : (s[k].toNat : Int) ≤ 57 := by omega
      rw [v1 hd]
      simp only
      have ih' := ih (k + 1) (pstep ws k (s[k].toNat - 48)) (by omega) (by rw [pstep_len, hw])
      have hq := tdiv8 k (by omega)
      have hj : k / 8 < ws.length := by omega
      have h3 : ((k / 8 : Nat) : Int) < 4 := by omega
      have hc := u32s_getD hj
      have h4 : k / 8 + 1 ≤ 4 := by omega
      have hw1 : IntKind.i64.wrap ((k : Int) + 1) = ((k + 1 : Nat) : Int) := wrap_i64 (by omega) (by omega)
      have hcm : IntKind.u32.wrap (IntKind.u8.wrap ((s[k].toNat : Int) - 48)) = ((s[k].toNat - 48 : Nat) : Int) := by
        rw [show (s[k].toNat : Int) - 48 = ((s[k].toNat - 48 : Nat) : Int) by omega, wrap_u8 (by omega) (by omega)]
        exact wrap_u32 (by omega) (by omega)
      have hset : splice (u32s ws) (k / 8) [.int .u32 (ibit .or .u32 (ishl .u32 (ws.getD (k / 8) 0) 4) ((s[k].toNat - 48 : Nat) : Int))] = u32s (pstep ws k (s[k].toNat - 48)) := by
        rw [splice_one _ _ _ (by rw [u32s_len]; exact hj)]
        simp [u32s, pstep, List.map_set]
      have key : blockR 0 [2, 4] (loopR E [0, 2, 4, 5] l11_0 ⟨[(0, .str s), (2, .loc 2 0), (4, .loc 4 0), (5, .int .i64 k)], [(2, .rows false 4 [.agg [.int .u32 0, .int .u32 0, .int .u32 0, .int .u32 0]]), (4, .rows false 4 [.agg (u32s ws)])], []⟩) =
          blockR 0 [2, 4] (loopR E [0, 2, 4, 5] l11_0 ⟨[(0, .str s), (2, .loc 2 0), (4, .loc 4 0), (5, .int .i64 ((k + 1 : Nat) : Int))], [(2, .rows false 4 [.agg [.int .u32 0, .int .u32 0, .int .u32 0, .int .u32 0]]), (4, .rows false 4 [.agg (u32s (pstep ws k (s[k].toNat - 48)))])], []⟩) := by
        rw [loopR]
        conv => lhs; arg 3; arg 1; rw [l11_0]
        simp only [Aa, Ab, Ac, Ad, Ae, Af, Ag, Ah, Ai, Aj, Ak, Al, Am, Ao, Ap, Aq, Ar, Au, Av, Aw, Ay, Az, Ba, Bb, Bc, Bd, Be, Bf, Bg, Bh, Bi, Bj, Bk, Bl, Bm, Bn, Bo, Bp, Bq, Br, Bs, Bt, Bv, Bw, Bx, Bz, Ca, Cb, Cc, Cd, Ce, Cf, Cg, Ch, Ci, Cj, Ck, Cl, Cm, Cn, Co, Cp, Cq, Cr, Cs, Ct, Cu, Cv, Cw, Cy, Cz, Da, Db, Dc, De, Df, Dg, Dh, Di, Dj, Dk, Dl, Dm, Dn, Option.map_some, Dp, Dq, Dr, Dt, Du, Dv, Dw, Dx, Dy, Dz, Ea, Eb, Ec, Ed, Ee, Ef, Eg, Eh, Ei, Ej, Ek, El, Em, Eo, Ep, Er, Es, Et, Eu, Ev, Ew, Ey, Ez, Fa, Fb, Fc, Fe, Ff, Fg, Fh, Fj, Fl, Fm, Fp, Fq, Fs, Ft, Fu, Fv, Fw, Fx, Fy, Fz, Ga, Gb, Gc, Gd, Ge, Gf, Gg, Gh, Gi, Gj, Nat.reduceEqDiff, Nat.reduceAdd, Nat.reduceMul, Nat.reduceLT, Nat.reduceLeDiff, ↓reduceIte, Ml, Mm, Nat.reduceBEq, Mn, Mo, Mp, Mq, reduceCtorEq, Mr, Ms, Gk, Gl, Gm, Gn, Gp, Gq, Gr, Gs, Gt, Gu, Gv, Gw, Gx, Gy, Gz, Ha, Hb, Hc, Hd, He, Hf, Hg, Hh, Hj, Hk, Hl, Hm, Hn, Ho, Hq, Hr, Hs, Ht, Hu, Hv, Hw, Hy, Hz, Ia, Ib, Ic, Ie, Ig, Ih, Ii, Ij, Ik, Il, Im, Io, Ip, Iq, Ir, Iu, Iv, Iw, Iy, Iz, Ja, Jb, Jc, Jd, Je, Jf, Jg, Jh, Ji, Jj, Jk, Jl, Jm, Jn, Jo, Jp, Jq, Jr, Js, Jt, Ju, Jv, Jw, Jy, Jz, Ka, Kb, Kc, Ke, Kf, Kg, Kh, Ki, Kj, Kk, Kl, Km, Kn, Ko, Kq, Kr, Ks, Kt, Ku, Kv, Kw, Kx, Ky, Kz, La, Lb, Lc, Ld, Le, Lf, Lg, Lh, Li, Lj, Ll, Lm, Ln, Lp, and_self, true_and, and_true, Mt, Mu, Mv, Mw, Mx, My, Mz, Na, Nb, Nc, Nd, Nf, Ng, Nh, Int.reduceToNat, Int.reduceLT, Int.reduceEq, Int.reduceLE, List.getElem?_cons_zero, List.getElem?_cons_succ, Lr, Ls, Lt, Ni, Nj, Nk, Nl, gt_iff_lt, ge_iff_le, Lu, Lv, Lw, Lx, Ly, Ma, Nn, Np, Mb, Mc, Md, Me, Mf, Mg, Mh, Mi, Mj, Mk, Nq, Nr, h1, decide_true, hg, c1, c2, hq, h3, hc, h4, hw1, hcm, mk_one, hset]
      rw [key]
      exact ih'
    · by_cases ha : 97 ≤ s[k].toNat ∧ s[k].toNat ≤ 102
      · have c1 : (48 : Int) ≤ (s[k].toNat : Int) := by omega
        have c2 : ¬ (s[k].toNat : Int) ≤ 57 := by omega
        have c3 : (97 : Int) ≤ (s[k].toNat : Int) := by omega
        have c4 : (s[k].toNat : Int) ≤ 102 := by omega
        rw [v2 hd ha]
        simp only
        have ih' := ih (k + 1) (pstep ws k (s[k].toNat - 87)) (by omega) (by rw [pstep_len, hw])
        have hq := tdiv8 k (by omega)
        have hj : k / 8 < ws.length := by omega
        have h3 : ((k / 8 : Nat) : Int) < 4 := by omega
        have hc := u32s_getD hj
        have h4 : k / 8 + 1 ≤ 4 := by omega
        have hw1 : IntKind.i64.wrap ((k : Int) + 1) = ((k + 1 : Nat) : Int) := wrap_i64 (by omega) (by omega)
        have hcm : IntKind.u32.wrap (IntKind.u32.wrap (IntKind.u8.wrap ((s[k].toNat : Int) - 97)) + 10) = ((s[k].toNat - 87 : Nat) : Int) := by
          rw [show (s[k].toNat : Int) - 97 = ((s[k].toNat - 97 : Nat) : Int) by omega, wrap_u8 (by omega) (by omega), @wrap_u32 ((s[k].toNat - 97 : Nat) : Int) (by omega) (by omega)]
          rw [show ((s[k].toNat - 97 : Nat) : Int) + 10 = ((s[k].toNat - 87 : Nat) : Int) by omega]
          exact wrap_u32 (by omega) (by omega)
        have hset : splice (u32s ws) (k / 8) [.int .u32 (ibit .or .u32 (ishl .u32 (ws.getD (k / 8) 0) 4) ((s[k].toNat - 87 : Nat) : Int))] = u32s (pstep ws k (s[k].toNat - 87)) := by
          rw [splice_one _ _ _ (by rw [u32s_len]; exact hj)]
          simp [u32s, pstep, List.map_set]
        have key : blockR 0 [2, 4] (loopR E [0, 2, 4, 5] l11_0 ⟨[(0, .str s), (2, .loc 2 0), (4, .loc 4 0), (5, .int .i64 k)], [(2, .rows false 4 [.agg [.int .u32 0, .int .u32 0, .int .u32 0, .int .u32 0]]), (4, .rows false 4 [.agg (u32s ws)])], []⟩) =
            blockR 0 [2, 4] (loopR E [0, 2, 4, 5] l11_0 ⟨[(0, .str s), (2, .loc 2 0), (4, .loc 4 0), (5, .int .i64 ((k + 1 : Nat) : Int))], [(2, .rows false 4 [.agg [.int .u32 0, .int .u32 0, .int .u32 0, .int .u32 0]]), (4, .rows false 4 [.agg (u32s (pstep ws k (s[k].toNat - 87)))])], []⟩) := by
          rw [loopR]
          conv => lhs; arg 3; arg 1; rw [l11_0]
          simp only [Aa, Ab, Ac, Ad, Ae, Af, Ag, Ah, Ai, Aj, Ak, Al, Am, Ao, Ap, Aq, Ar, Au, Av, Aw, Ay, Az, Ba, Bb, Bc, Bd, Be, Bf, Bg, Bh, Bi, Bj, Bk, Bl, Bm, Bn, Bo, Bp, Bq, Br, Bs, Bt, Bv, Bw, Bx, Bz, Ca, Cb, Cc, Cd, Ce, Cf, Cg, Ch, Ci, Cj, Ck, Cl, Cm, Cn, Co, Cp, Cq, Cr, Cs, Ct, Cu, Cv, Cw, Cy, Cz, Da, Db, Dc, De, Df, Dg, Dh, Di, Dj, Dk, Dl, Dm, Dn, Option.map_some, Dp, Dq, Dr, Dt, Du, Dv, Dw, Dx, Dy, Dz, Ea, Eb, Ec, Ed, Ee, Ef, Eg, Eh, Ei, Ej, Ek, El, Em, Eo, Ep, Er, Es, Et, Eu, Ev, Ew, Ey, Ez, Fa, Fb, Fc, Fe, Ff, Fg, Fh, Fj, Fl, Fm, Fp, Fq, Fs, Ft, Fu, Fv, Fw, Fx, Fy, Fz, Ga, Gb, Gc, Gd, Ge, Gf, Gg, Gh, Gi, Gj, Nat.reduceEqDiff, Nat.reduceAdd, Nat.reduceMul, Nat.reduceLT, Nat.reduceLeDiff, ↓reduceIte, Ml, Mm, Nat.reduceBEq, Mn, Mo, Mp, Mq, reduceCtorEq, Mr, Ms, Gk, Gl, Gm, Gn, Gp, Gq, Gr, Gs, Gt, Gu, Gv, Gw, Gx, Gy, Gz, Ha, Hb, Hc, Hd, He, Hf, Hg, Hh, Hj, Hk, Hl, Hm, Hn, Ho, Hq, Hr, Hs, Ht, Hu, Hv, Hw, Hy, Hz, Ia, Ib, Ic, Ie, Ig, Ih, Ii, Ij, Ik, Il, Im, Io, Ip, Iq, Ir, Iu, Iv, Iw, Iy, Iz, Ja, Jb, Jc, Jd, Je, Jf, Jg, Jh, Ji, Jj, Jk, Jl, Jm, Jn, Jo, Jp, Jq, Jr, Js, Jt, Ju, Jv, Jw, Jy, Jz, Ka, Kb, Kc, Ke, Kf, Kg, Kh, Ki, Kj, Kk, Kl, Km, Kn, Ko, Kq, Kr, Ks, Kt, Ku, Kv, Kw, Kx, Ky, Kz, La, Lb, Lc, Ld, Le, Lf, Lg, Lh, Li, Lj, Ll, Lm, Ln, Lp, and_self, true_and, and_true, Mt, Mu, Mv, Mw, Mx, My, Mz, Na, Nb, Nc, Nd, Nf, Ng, Nh, Int.reduceToNat, Int.reduceLT, Int.reduceEq, Int.reduceLE, List.getElem?_cons_zero, List.getElem?_cons_succ, Lr, Ls, Lt, Ni, Nj, Nk, Nl, gt_iff_lt, ge_iff_le, Lu, Lv, Lw, Lx, Ly, Ma, Nn, Np, Mb, Mc, Md, Me, Mf, Mg, Mh, Mi, Mj, Mk, Nq, Nr, h1, decide_true, decide_false, hg, c1, c2, c3, c4, hq, h3, hc, h4, hw1, hcm, mk_one, hset]
        rw [key]
        exact ih'
      · rw [v3 hd ha]
        simp only
        rw [loopR]
        conv => congr; ext; lhs; lhs; arg 3; arg 1; rw [l11_0]
        by_cases c1 : (48 : Int) ≤ (s[k].toNat : Int)
        · have c2 : ¬ (s[k].toNat : Int) ≤ 57 := by omega
          by_cases c3 : (97 : Int) ≤ (s[k].toNat : Int)
          · have c4 : ¬ (s[k].toNat : Int) ≤ 102 := by omega
            simp only [Aa, Ab, Ac, Ad, Ae, Af, Ag, Ah, Ai, Aj, Ak, Al, Am, Ao, Ap, Aq, Ar, Au, Av, Aw, Ay, Az, Ba, Bb, Bc, Bd, Be, Bf, Bg, Bh, Bi, Bj, Bk, Bl, Bm, Bn, Bo, Bp, Bq, Br, Bs, Bt, Bv, Bw, Bx, Bz, Ca, Cb, Cc, Cd, Ce, Cf, Cg, Ch, Ci, Cj, Ck, Cl, Cm, Cn, Co, Cp, Cq, Cr, Cs, Ct, Cu, Cv, Cw, Cy, Cz, Da, Db, Dc, De, Df, Dg, Dh, Di, Dj, Dk, Dl, Dm, Dn, Option.map_some, Dp, Dq, Dr, Dt, Du, Dv, Dw, Dx, Dy, Dz, Ea, Eb, Ec, Ed, Ee, Ef, Eg, Eh, Ei, Ej, Ek, El, Em, Eo, Ep, Er, Es, Et, Eu, Ev, Ew, Ey, Ez, Fa, Fb, Fc, Fe, Ff, Fg, Fh, Fj, Fl, Fm, Fp, Fq, Fs, Ft, Fu, Fv, Fw, Fx, Fy, Fz, Ga, Gb, Gc, Gd, Ge, Gf, Gg, Gh, Gi, Gj, Nat.reduceEqDiff, Nat.reduceAdd, Nat.reduceMul, Nat.reduceLT, Nat.reduceLeDiff, ↓reduceIte, Ml, Mm, Nat.reduceBEq, Mn, Mo, Mp, Mq, reduceCtorEq, Mr, Ms, Gk, Gl, Gm, Gn, Gp, Gq, Gr, Gs, Gt, Gu, Gv, Gw, Gx, Gy, Gz, Ha, Hb, Hc, Hd, He, Hf, Hg, Hh, Hj, Hk, Hl, Hm, Hn, Ho, Hq, Hr, Hs, Ht, Hu, Hv, Hw, Hy, Hz, Ia, Ib, Ic, Ie, Ig, Ih, Ii, Ij, Ik, Il, Im, Io, Ip, Iq, Ir, Iu, Iv, Iw, Iy, Iz, Ja, Jb, Jc, Jd, Je, Jf, Jg, Jh, Ji, Jj, Jk, Jl, Jm, Jn, Jo, Jp, Jq, Jr, Js, Jt, Ju, Jv, Jw, Jy, Jz, Ka, Kb, Kc, Ke, Kf, Kg, Kh, Ki, Kj, Kk, Kl, Km, Kn, Ko, Kq, Kr, Ks, Kt, Ku, Kv, Kw, Kx, Ky, Kz, La, Lb, Lc, Ld, Le, Lf, Lg, Lh, Li, Lj, Ll, Lm, Ln, Lp, and_self, true_and, and_true, Mt, Mu, Mv, Mw, Mx, My, Mz, Na, Nb, Nc, Nd, Nf, Ng, Nh, Int.reduceToNat, Int.reduceLT, Int.reduceEq, Int.reduceLE, List.getElem?_cons_zero, List.getElem?_cons_succ, Lr, Ls, Lt, Ni, Nj, Nk, Nl, gt_iff_lt, ge_iff_le, Lu, Lv, Lw, Lx, Ly, Ma, Nn, Np, Mb, Mc, Md, Me, Mf, Mg, Mh, Mi, Mj, Mk, Nq, Nr, h1, decide_true, decide_false, hg, c1, c2, c3, c4]
            exact ⟨_, rfl, rfl, rfl⟩
          · simp only [Aa, Ab, Ac, Ad, Ae, Af, Ag, Ah, Ai, Aj, Ak, Al, Am, Ao, Ap, Aq, Ar, Au, Av, Aw, Ay, Az, Ba, Bb, Bc, Bd, Be, Bf, Bg, Bh, Bi, Bj, Bk, Bl, Bm, Bn, Bo, Bp, Bq, Br, Bs, Bt, Bv, Bw, Bx, Bz, Ca, Cb, Cc, Cd, Ce, Cf, Cg, Ch, Ci, Cj, Ck, Cl, Cm, Cn, Co, Cp, Cq, Cr, Cs, Ct, Cu, Cv, Cw, Cy, Cz, Da, Db, Dc, De, Df, Dg, Dh, Di, Dj, Dk, Dl, Dm, Dn, Option.map_some, Dp, Dq, Dr, Dt, Du, Dv, Dw, Dx, Dy, Dz, Ea, Eb, Ec, Ed, Ee, Ef, Eg, Eh, Ei, Ej, Ek, El, Em, Eo, Ep, Er, Es, Et, Eu, Ev, Ew, Ey, Ez, Fa, Fb, Fc, Fe, Ff, Fg, Fh, Fj, Fl, Fm, Fp, Fq, Fs, Ft, Fu, Fv, Fw, Fx, Fy, Fz, Ga, Gb, Gc, Gd, Ge, Gf, Gg, Gh, Gi, Gj, Nat.reduceEqDiff, Nat.reduceAdd, Nat.reduceMul, Nat.reduceLT, Nat.reduceLeDiff, ↓reduceIte, Ml, Mm, Nat.reduceBEq, Mn, Mo, Mp, Mq, reduceCtorEq, Mr, Ms, Gk, Gl, Gm, Gn, Gp, Gq, Gr, Gs, Gt, Gu, Gv, Gw, Gx, Gy, Gz, Ha, Hb, Hc, Hd, He, Hf, Hg, Hh, Hj, Hk, Hl, Hm, Hn, Ho, Hq, Hr, Hs, Ht, Hu, Hv, Hw, Hy, Hz, Ia, Ib, Ic, Ie, Ig, Ih, Ii, Ij, Ik, Il, Im, Io, Ip, Iq, Ir, Iu, Iv, Iw, Iy, Iz, Ja, Jb, Jc, Jd, Je, Jf, Jg, Jh, Ji, Jj, Jk, Jl, Jm, Jn, Jo, Jp, Jq, Jr, Js, Jt, Ju, Jv, Jw, Jy, Jz, Ka, Kb, Kc, Ke, Kf, Kg, Kh, Ki, Kj, Kk, Kl, Km, Kn, Ko, Kq, Kr, Ks, Kt, Ku, Kv, Kw, Kx, Ky, Kz, La, Lb, Lc, Ld, Le, Lf, Lg, Lh, Li, Lj, Ll, Lm, Ln, Lp, and_self, true_and, and_true, Mt, Mu, Mv, Mw, Mx, My, Mz, Na, Nb, Nc, Nd, Nf, Ng, Nh, Int.reduceToNat, Int.reduceLT, Int.reduceEq, Int.reduceLE, List.getElem?_cons_zero, List.getElem?_cons_succ, Lr, Ls, Lt, Ni, Nj, Nk, Nl, gt_iff_lt, ge_iff_le, Lu, Lv, Lw, Lx, Ly, Ma, Nn, Np, Mb, Mc, Md, Me, Mf, Mg, Mh, Mi, Mj, Mk, Nq, Nr, h1, decide_true, decide_false, hg, c1, c2, c3]
            exact ⟨_, rfl, rfl, rfl⟩
        · have c3 : ¬ (97 : Int) ≤ (s[k].toNat : Int) := by omega
          simp only [Aa, Ab, Ac, Ad, Ae, Af, Ag, Ah, Ai, Aj, Ak, Al, Am, Ao, Ap, Aq, Ar, Au, Av, Aw, Ay, Az, Ba, Bb, Bc, Bd, Be, Bf, Bg, Bh, Bi, Bj, Bk, Bl, Bm, Bn, Bo, Bp, Bq, Br, Bs, Bt, Bv, Bw, Bx, Bz, Ca, Cb, Cc, Cd, Ce, Cf, Cg, Ch, Ci, Cj, Ck, Cl, Cm, Cn, Co, Cp, Cq, Cr, Cs, Ct, Cu, Cv, Cw, Cy, Cz, Da, Db, Dc, De, Df, Dg, Dh, Di, Dj, Dk, Dl, Dm, Dn, Option.map_some, Dp, Dq, Dr, Dt, Du, Dv, Dw, Dx, Dy, Dz, Ea, Eb, Ec, Ed, Ee, Ef, Eg, Eh, Ei, Ej, Ek, El, Em, Eo, Ep, Er, Es, Et, Eu, Ev, Ew, Ey, Ez, Fa, Fb, Fc, Fe, Ff, Fg, Fh, Fj, Fl, Fm, Fp, Fq, Fs, Ft, Fu, Fv, Fw, Fx, Fy, Fz, Ga, Gb, Gc, Gd, Ge, Gf, Gg, Gh, Gi, Gj, Nat.reduceEqDiff, Nat.reduceAdd, Nat.reduceMul, Nat.reduceLT, Nat.reduceLeDiff, ↓reduceIte, Ml, Mm, Nat.reduceBEq, Mn, Mo, Mp, Mq, reduceCtorEq, Mr, Ms, Gk, Gl, Gm, Gn, Gp, Gq, Gr, Gs, Gt, Gu, Gv, Gw, Gx, Gy, Gz, Ha, Hb, Hc, Hd, He, Hf, Hg, Hh, Hj, Hk, Hl, Hm, Hn, Ho, Hq, Hr, Hs, Ht, Hu, Hv, Hw, Hy, Hz, Ia, Ib, Ic, Ie, Ig, Ih, Ii, Ij, Ik, Il, Im, Io, Ip, Iq, Ir, Iu, Iv, Iw, Iy, Iz, Ja, Jb, Jc, Jd, Je, Jf, Jg, Jh, Ji, Jj, Jk, Jl, Jm, Jn, Jo, Jp, Jq, Jr, Js, Jt, Ju, Jv, Jw, Jy, Jz, Ka, Kb, Kc, Ke, Kf, Kg, Kh, Ki, Kj, Kk, Kl, Km, Kn, Ko, Kq, Kr, Ks, Kt, Ku, Kv, Kw, Kx, Ky, Kz, La, Lb, Lc, Ld, Le, Lf, Lg, Lh, Li, Lj, Ll, Lm, Ln, Lp, and_self, true_and, and_true, Mt, Mu, Mv, Mw, Mx, My, Mz, Na, Nb, Nc, Nd, Nf, Ng, Nh, Int.reduceToNat, Int.reduceLT, Int.reduceEq, Int.reduceLE, List.getElem?_cons_zero, List.getElem?_cons_succ, Lr, Ls, Lt, Ni, Nj, Nk, Nl, gt_iff_lt, ge_iff_le, Lu, Lv, Lw, Lx, Ly, Ma, Nn, Np, Mb, Mc, Md, Me, Mf, Mg, Mh, Mi, Mj, Mk, Nq, Nr, h1, decide_true, decide_false, hg, c1, c3]
          exact ⟨_, rfl, rfl, rfl⟩

theorem d_parse11 {E : Env} (h11 : E 11 = some (.code c11)) (s : List UInt8) (hs : s.length ≤ 140737488351232) (hp : Hp) : deepE E (Call E) 11 [.str s] hp = some (parseS s) := by
  rw [deep_code h11 rfl, deep_go]
  simp only [mapO_nil, mapO_cons, consO_some, snapA_str, goD_some]
  rw [Call_mk E h11 _ _ rfl]
  by_cases h : s.length = 32
  · have hl := loop11 (E := E) s h _ rfl 32 0 [0, 0, 0, 0] (by omega) rfl
    rw [List.drop_zero] at hl
    unfold parseS
    rw [if_pos h]
    have h32 : ((s.length : Nat) : Int) = 32 := by omega
    cases hz : pz s 0 [0, 0, 0, 0] with
    | some ws =>
      rw [hz] at hl
      simp only [zero4, Int.cast_ofNat_Int] at hl
      have h4 := pz_len _ _ _ _ hz
      have htk : List.take 4 (u32s ws) = u32s ws := by rw [List.take_of_length_le]; rw [u32s_len, h4]; exact Nat.le_refl _
      have hsp : splice [S.int .u32 0, S.int .u32 0, S.int .u32 0, S.int .u32 0] 0 (u32s ws) = u32s ws := splice_all _ _ (by rw [u32s_len, h4]; rfl)
      have hok : (u32s ws).all S.okv = true := by simp [u32s, S.okv]
      have hlen : (u32s ws).length = 4 := by rw [u32s_len, h4]; rfl
      simp only [Aa, Ab, Ac, Ad, Ae, Af, Ag, Ah, Ai, Aj, Ak, Al, Am, Ao, Ap, Aq, Ar, Au, Av, Aw, Ay, Az, Ba, Bb, Bc, Bd, Be, Bf, Bg, Bh, Bi, Bj, Bk, Bl, Bm, Bn, Bo, Bp, Bq, Br, Bs, Bt, Bv, Bw, Bx, Bz, Ca, Cb, Cc, Cd, Ce, Cf, Cg, Ch, Ci, Cj, Ck, Cl, Cm, Cn, Co, Cp, Cq, Cr, Cs, Ct, Cu, Cv, Cw, Cy, Cz, Da, Db, Dc, De, Df, Dg, Dh, Di, Dj, Dk, Dl, Dm, Dn, Option.map_some, Dp, Dq, Dr, Dt, Du, Dv, Dw, Dx, Dy, Dz, Ea, Eb, Ec, Ed, Ee, Ef, Eg, Eh, Ei, Ej, Ek, El, Em, Eo, Ep, Er, Es, Et, Eu, Ev, Ew, Ey, Ez, Fa, Fb, Fc, Fe, Ff, Fg, Fh, Fj, Fl, Fm, Fp, Fq, Fs, Ft, Fu, Fv, Fw, Fx, Fy, Fz, Ga, Gb, Gc, Gd, Ge, Gf, Gg, Gh, Gi, Gj, Nat.reduceEqDiff, Nat.reduceAdd, Nat.reduceMul, Nat.reduceLT, Nat.reduceLeDiff, ↓reduceIte, Ml, Mm, Nat.reduceBEq, Mn, Mo, Mp, Mq, reduceCtorEq, Mr, Ms, Gk, Gl, Gm, Gn, Gp, Gq, Gr, Gs, Gt, Gu, Gv, Gw, Gx, Gy, Gz, Ha, Hb, Hc, Hd, He, Hf, Hg, Hh, Hj, Hk, Hl, Hm, Hn, Ho, Hq, Hr, Hs, Ht, Hu, Hv, Hw, Hy, Hz, Ia, Ib, Ic, Ie, Ig, Ih, Ii, Ij, Ik, Il, Im, Io, Ip, Iq, Ir, Iu, Iv, Iw, Iy, Iz, Ja, Jb, Jc, Jd, Je, Jf, Jg, Jh, Ji, Jj, Jk, Jl, Jm, Jn, Jo, Jp, Jq, Jr, Js, Jt, Ju, Jv, Jw, Jy, Jz, Ka, Kb, Kc, Ke, Kf, Kg, Kh, Ki, Kj, Kk, Kl, Km, Kn, Ko, Kq, Kr, Ks, Kt, Ku, Kv, Kw, Kx, Ky, Kz, La, Lb, Lc, Ld, Le, Lf, Lg, Lh, Li, Lj, Ll, Lm, Ln, Lp, and_self, true_and, and_true, Mt, Mu, Mv, Mw, Mx, My, Mz, Na, Nb, Nc, Nd, Nf, Ng, Nh, Int.reduceToNat, Int.reduceLT, Int.reduceEq, Int.reduceLE, List.getElem?_cons_zero, List.getElem?_cons_succ, Lr, Ls, Lt, Ni, Nj, Nk, Nl, gt_iff_lt, ge_iff_le, Lu, Lv, Lw, Lx, Ly, Ma, Nn, Np, Mb, Mc, Md, Me, Mf, Mg, Mh, Mi, Mj, Mk, Nq, Nr, h32, ne_eq, not_true_eq_false, decide_false, zero4]
      rw [hl]
      simp only [Aa, Ab, Ac, Ad, Ae, Af, Ag, Ah, Ai, Aj, Ak, Al, Am, Ao, Ap, Aq, Ar, Au, Av, Aw, Ay, Az, Ba, Bb, Bc, Bd, Be, Bf, Bg, Bh, Bi, Bj, Bk, Bl, Bm, Bn, Bo, Bp, Bq, Br, Bs, Bt, Bv, Bw, Bx, Bz, Ca, Cb, Cc, Cd, Ce, Cf, Cg, Ch, Ci, Cj, Ck, Cl, Cm, Cn, Co, Cp, Cq, Cr, Cs, Ct, Cu, Cv, Cw, Cy, Cz, Da, Db, Dc, De, Df, Dg, Dh, Di, Dj, Dk, Dl, Dm, Dn, Option.map_some, Dp, Dq, Dr, Dt, Du, Dv, Dw, Dx, Dy, Dz, Ea, Eb, Ec, Ed, Ee, Ef, Eg, Eh, Ei, Ej, Ek, El, Em, Eo, Ep, Er, Es, Et, Eu, Ev, Ew, Ey, Ez, Fa, Fb, Fc, Fe, Ff, Fg, Fh, Fj, Fl, Fm, Fp, Fq, Fs, Ft, Fu, Fv, Fw, Fx, Fy, Fz, Ga, Gb, Gc, Gd, Ge, Gf, Gg, Gh, Gi, Gj, Nat.reduceEqDiff, Nat.reduceAdd, Nat.reduceMul, Nat.reduceLT, Nat.reduceLeDiff, ↓reduceIte, Ml, Mm, Nat.reduceBEq, Mn, Mo, Mp, Mq, reduceCtorEq, Mr, Ms, Gk, Gl, Gm, Gn, Gp, Gq, Gr, Gs, Gt, Gu, Gv, Gw, Gx, Gy, Gz, Ha, Hb, Hc, Hd, He, Hf, Hg, Hh, Hj, Hk, Hl, Hm, Hn, Ho, Hq, Hr, Hs, Ht, Hu, Hv, Hw, Hy, Hz, Ia, Ib, Ic, Ie, Ig, Ih, Ii, Ij, Ik, Il, Im, Io, Ip, Iq, Ir, Iu, Iv, Iw, Iy, Iz, Ja, Jb, Jc, Jd, Je, Jf, Jg, Jh, Ji, Jj, Jk, Jl, Jm, Jn, Jo, Jp, Jq, Jr, Js, Jt, Ju, Jv, Jw, Jy, Jz, Ka, Kb, Kc, Ke, Kf, Kg, Kh, Ki, Kj, Kk, Kl, Km, Kn, Ko, Kq, Kr, Ks, Kt, Ku, Kv, Kw, Kx, Ky, Kz, La, Lb, Lc, Ld, Le, Lf, Lg, Lh, Li, Lj, Ll, Lm, Ln, Lp, and_self, true_and, and_true, Mt, Mu, Mv, Mw, Mx, My, Mz, Na, Nb, Nc, Nd, Nf, Ng, Nh, Int.reduceToNat, Int.reduceLT, Int.reduceEq, Int.reduceLE, List.getElem?_cons_zero, List.getElem?_cons_succ, Lr, Ls, Lt, Ni, Nj, Nk, Nl, gt_iff_lt, ge_iff_le, Lu, Lv, Lw, Lx, Ly, Ma, Nn, Np, Mb, Mc, Md, Me, Mf, Mg, Mh, Mi, Mj, Mk, Nq, Nr, htk, hsp, hok, hlen, result, result.mapO', resV, loadR, cellsAt_eq, Option.bind_some, Option.map_some, mk, snap_tup4, out_tup4]
      rw [mapO_u32s]
      rfl
    | none =>
      rw [hz] at hl
      simp only [zero4, Int.cast_ofNat_Int] at hl
      obtain ⟨st, h2, h3, h4⟩ := hl
      simp only [Aa, Ab, Ac, Ad, Ae, Af, Ag, Ah, Ai, Aj, Ak, Al, Am, Ao, Ap, Aq, Ar, Au, Av, Aw, Ay, Az, Ba, Bb, Bc, Bd, Be, Bf, Bg, Bh, Bi, Bj, Bk, Bl, Bm, Bn, Bo, Bp, Bq, Br, Bs, Bt, Bv, Bw, Bx, Bz, Ca, Cb, Cc, Cd, Ce, Cf, Cg, Ch, Ci, Cj, Ck, Cl, Cm, Cn, Co, Cp, Cq, Cr, Cs, Ct, Cu, Cv, Cw, Cy, Cz, Da, Db, Dc, De, Df, Dg, Dh, Di, Dj, Dk, Dl, Dm, Dn, Option.map_some, Dp, Dq, Dr, Dt, Du, Dv, Dw, Dx, Dy, Dz, Ea, Eb, Ec, Ed, Ee, Ef, Eg, Eh, Ei, Ej, Ek, El, Em, Eo, Ep, Er, Es, Et, Eu, Ev, Ew, Ey, Ez, Fa, Fb, Fc, Fe, Ff, Fg, Fh, Fj, Fl, Fm, Fp, Fq, Fs, Ft, Fu, Fv, Fw, Fx, Fy, Fz, Ga, Gb, Gc, Gd, Ge, Gf, Gg, Gh, Gi, Gj, Nat.reduceEqDiff, Nat.reduceAdd, Nat.reduceMul, Nat.reduceLT, Nat.reduceLeDiff, ↓reduceIte, Ml, Mm, Nat.reduceBEq, Mn, Mo, Mp, Mq, reduceCtorEq, Mr, Ms, Gk, Gl, Gm, Gn, Gp, Gq, Gr, Gs, Gt, Gu, Gv, Gw, Gx, Gy, Gz, Ha, Hb, Hc, Hd, He, Hf, Hg, Hh, Hj, Hk, Hl, Hm, Hn, Ho, Hq, Hr, Hs, Ht, Hu, Hv, Hw, Hy, Hz, Ia, Ib, Ic, Ie, Ig, Ih, Ii, Ij, Ik, Il, Im, Io, Ip, Iq, Ir, Iu, Iv, Iw, Iy, Iz, Ja, Jb, Jc, Jd, Je, Jf, Jg, Jh, Ji, Jj, Jk, Jl, Jm, Jn, Jo, Jp, Jq, Jr, Js, Jt, Ju, Jv, Jw, Jy, Jz, Ka, Kb, Kc, Ke, Kf, Kg, Kh, Ki, Kj, Kk, Kl, Km, Kn, Ko, Kq, Kr, Ks, Kt, Ku, Kv, Kw, Kx, Ky, Kz, La, Lb, Lc, Ld, Le, Lf, Lg, Lh, Li, Lj, Ll, Lm, Ln, Lp, and_self, true_and, and_true, Mt, Mu, Mv, Mw, Mx, My, Mz, Na, Nb, Nc, Nd, Nf, Ng, Nh, Int.reduceToNat, Int.reduceLT, Int.reduceEq, Int.reduceLE, List.getElem?_cons_zero, List.getElem?_cons_succ, Lr, Ls, Lt, Ni, Nj, Nk, Nl, gt_iff_lt, ge_iff_le, Lu, Lv, Lw, Lx, Ly, Ma, Nn, Np, Mb, Mc, Md, Me, Mf, Mg, Mh, Mi, Mj, Mk, Nq, Nr, h32, ne_eq, not_true_eq_false, decide_false]
      rw [h2]
      simp only [Aa, Ab, Ac, Ad, Ae, Af, Ag, Ah, Ai, Aj, Ak, Al, Am, Ao, Ap, Aq, Ar, Au, Av, Aw, Ay, Az, Ba, Bb, Bc, Bd, Be, Bf, Bg, Bh, Bi, Bj, Bk, Bl, Bm, Bn, Bo, Bp, Bq, Br, Bs, Bt, Bv, Bw, Bx, Bz, Ca, Cb, Cc, Cd, Ce, Cf, Cg, Ch, Ci, Cj, Ck, Cl, Cm, Cn, Co, Cp, Cq, Cr, Cs, Ct, Cu, Cv, Cw, Cy, Cz, Da, Db, Dc, De, Df, Dg, Dh, Di, Dj, Dk, Dl, Dm, Dn, Option.map_some, Dp, Dq, Dr, Dt, Du, Dv, Dw, Dx, Dy, Dz, Ea, Eb, Ec, Ed, Ee, Ef, Eg, Eh, Ei, Ej, Ek, El, Em, Eo, Ep, Er, Es, Et, Eu, Ev, Ew, Ey, Ez, Fa, Fb, Fc, Fe, Ff, Fg, Fh, Fj, Fl, Fm, Fp, Fq, Fs, Ft, Fu, Fv, Fw, Fx, Fy, Fz, Ga, Gb, Gc, Gd, Ge, Gf, Gg, Gh, Gi, Gj, Nat.reduceEqDiff, Nat.reduceAdd, Nat.reduceMul, Nat.reduceLT, Nat.reduceLeDiff, ↓reduceIte, Ml, Mm, Nat.reduceBEq, Mn, Mo, Mp, Mq, reduceCtorEq, Mr, Ms, Gk, Gl, Gm, Gn, Gp, Gq, Gr, Gs, Gt, Gu, Gv, Gw, Gx, Gy, Gz, Ha, Hb, Hc, Hd, He, Hf, Hg, Hh, Hj, Hk, Hl, Hm, Hn, Ho, Hq, Hr, Hs, Ht, Hu, Hv, Hw, Hy, Hz, Ia, Ib, Ic, Ie, Ig, Ih, Ii, Ij, Ik, Il, Im, Io, Ip, Iq, Ir, Iu, Iv, Iw, Iy, Iz, Ja, Jb, Jc, Jd, Je, Jf, Jg, Jh, Ji, Jj, Jk, Jl, Jm, Jn, Jo, Jp, Jq, Jr, Js, Jt, Ju, Jv, Jw, Jy, Jz, Ka, Kb, Kc, Ke, Kf, Kg, Kh, Ki, Kj, Kk, Kl, Km, Kn, Ko, Kq, Kr, Ks, Kt, Ku, Kv, Kw, Kx, Ky, Kz, La, Lb, Lc, Ld, Le, Lf, Lg, Lh, Li, Lj, Ll, Lm, Ln, Lp, and_self, true_and, and_true, Mt, Mu, Mv, Mw, Mx, My, Mz, Na, Nb, Nc, Nd, Nf, Ng, Nh, Int.reduceToNat, Int.reduceLT, Int.reduceEq, Int.reduceLE, List.getElem?_cons_zero, List.getElem?_cons_succ, Lr, Ls, Lt, Ni, Nj, Nk, Nl, gt_iff_lt, ge_iff_le, Lu, Lv, Lw, Lx, Ly, Ma, Nn, Np, Mb, Mc, Md, Me, Mf, Mg, Mh, Mi, Mj, Mk, Nq, Nr, h3, h4]
      rfl
  · have h1 : ¬ ((s.length : Int) = 32) := by omega
    unfold parseS
    rw [if_neg h]
    simp only [Aa, Ab, Ac, Ad, Ae, Af, Ag, Ah, Ai, Aj, Ak, Al, Am, Ao, Ap, Aq, Ar, Au, Av, Aw, Ay, Az, Ba, Bb, Bc, Bd, Be, Bf, Bg, Bh, Bi, Bj, Bk, Bl, Bm, Bn, Bo, Bp, Bq, Br, Bs, Bt, Bv, Bw, Bx, Bz, Ca, Cb, Cc, Cd, Ce, Cf, Cg, Ch, Ci, Cj, Ck, Cl, Cm, Cn, Co, Cp, Cq, Cr, Cs, Ct, Cu, Cv, Cw, Cy, Cz, Da, Db, Dc, De, Df, Dg, Dh, Di, Dj, Dk, Dl, Dm, Dn, Option.map_some, Dp, Dq, Dr, Dt, Du, Dv, Dw, Dx, Dy, Dz, Ea, Eb, Ec, Ed, Ee, Ef, Eg, Eh, Ei, Ej, Ek, El, Em, Eo, Ep, Er, Es, Et, Eu, Ev, Ew, Ey, Ez, Fa, Fb, Fc, Fe, Ff, Fg, Fh, Fj, Fl, Fm, Fp, Fq, Fs, Ft, Fu, Fv, Fw, Fx, Fy, Fz, Ga, Gb, Gc, Gd, Ge, Gf, Gg, Gh, Gi, Gj, Nat.reduceEqDiff, Nat.reduceAdd, Nat.reduceMul, Nat.reduceLT, Nat.reduceLeDiff, ↓reduceIte, Ml, Mm, Nat.reduceBEq, Mn, Mo, Mp, Mq, reduceCtorEq, Mr, Ms, Gk, Gl, Gm, Gn, Gp, Gq, Gr, Gs, Gt, Gu, Gv, Gw, Gx, Gy, Gz, Ha, Hb, Hc, Hd, He, Hf, Hg, Hh, Hj, Hk, Hl, Hm, Hn, Ho, Hq, Hr, Hs, Ht, Hu, Hv, Hw, Hy, Hz, Ia, Ib, Ic, Ie, Ig, Ih, Ii, Ij, Ik, Il, Im, Io, Ip, Iq, Ir, Iu, Iv, Iw, Iy, Iz, Ja, Jb, Jc, Jd, Je, Jf, Jg, Jh, Ji, Jj, Jk, Jl, Jm, Jn, Jo, Jp, Jq, Jr, Js, Jt, Ju, Jv, Jw, Jy, Jz, Ka, Kb, Kc, Ke, Kf, Kg, Kh, Ki, Kj, Kk, Kl, Km, Kn, Ko, Kq, Kr, Ks, Kt, Ku, Kv, Kw, Kx, Ky, Kz, La, Lb, Lc, Ld, Le, Lf, Lg, Lh, Li, Lj, Ll, Lm, Ln, Lp, and_self, true_and, and_true, Mt, Mu, Mv, Mw, Mx, My, Mz, Na, Nb, Nc, Nd, Nf, Ng, Nh, Int.reduceToNat, Int.reduceLT, Int.reduceEq, Int.reduceLE, List.getElem?_cons_zero, List.getElem?_cons_succ, Lr, Ls, Lt, Ni, Nj, Nk, Nl, gt_iff_lt, ge_iff_le, Lu, Lv, Lw, Lx, Ly, Ma, Nn, Np, Mb, Mc, Md, Me, Mf, Mg, Mh, Mi, Mj, Mk, Nq, Nr, ne_eq, h1, not_false_eq_true, decide_true]
    rfl
end Go.Proofs.Ytkafliflpplpeaa.Sim
namespace Go.Proofs.Ytkafliflpplpeaa.Sim
set_option linter.unusedSimpArgs false
set_option linter.unusedVariables false
open Go
set_option maxRecDepth 100000
set_option linter.unusedSimpArgs false

def qtext (a b c d : Int) : List UInt8 := hexW a 8 ++ (hexW b 8 ++ (hexW c 8 ++ hexW d 8))
theorem hexW_len (x : Int) : ∀ m, (hexW x m).length = m
  | 0 => rfl
  | m + 1 => by simp [hexW, hexW_len x m]
theorem qtext_len (a b c d : Int) : (qtext a b c d).length = 32 := by simp [qtext, hexW_len]

theorem hv_hx (x : Int) (m : Nat) : hv (hx.getD (nibS x m) 0) = some (nibS x m) := by
  have h : ∀ n < 16, hv (hx.getD n 0) = some n := by decide +kernel
  exact h _ (Nat.mod_lt _ (by decide))

theorem pz_word (x : Int) (hx0 : okW x = true) (j : Nat) (r : List UInt8) : ∀ (m : Nat) (ws : List Int), m ≤ 8 → j < ws.length → ws.getD j 0 = ((x.toNat / 16 ^ m : Nat) : Int) →
    pz (hexW x m ++ r) (8 * j + (8 - m)) ws = pz r (8 * j + 8) (ws.set j x)
  | 0, ws, _, hj, hw => by
    simp only [okW, decide_eq_true_eq] at hx0
    have : ws.set j x = ws := by
      have e : x = ws.getD j 0 := by rw [hw]; simp; omega
      rw [e]
      simp [List.getD, hj]
    simp [hexW, this]
  | m + 1, ws, hm, hj, hw => by
    have h0 := hx0
    simp only [okW, decide_eq_true_eq] at h0
    simp only [hexW, List.cons_append, pz, hv_hx]
    have hk : (8 * j + (8 - (m + 1))) / 8 = j := by omega
    have hdiv : x.toNat / 16 ^ (m + 1) = x.toNat / 16 ^ m / 16 := by rw [Nat.pow_succ, Nat.div_div_eq_div_mul]
    have hlt : x.toNat / 16 ^ m < 4294967296 := Nat.lt_of_le_of_lt (Nat.div_le_self _ _) (by omega)
    have hn : nibS x m = x.toNat / 16 ^ m % 16 := rfl
    have hst : ibit .or .u32 (ishl .u32 (ws.getD j 0) 4) (nibS x m) = ((x.toNat / 16 ^ m : Nat) : Int) := by
      rw [hw, hdiv, ishl_nat _ 4 (by omega) (by omega), or_hi _ _ 4 (by omega) (by omega)]
      congr 1
      omega
    have ih := pz_word x hx0 j r m (ws.set j ((x.toNat / 16 ^ m : Nat) : Int)) (by omega) (by simpa using hj) (by simp [List.getD, hj])
    rw [pstep, hk, hst, show 8 * j + (8 - (m + 1)) + 1 = 8 * j + (8 - m) by omega, ih, List.set_set]

theorem pz_text (a b c d : Int) (ha : okW a = true) (hb : okW b = true) (hc : okW c = true) (hd : okW d = true) : pz (qtext a b c d) 0 [0, 0, 0, 0] = some [a, b, c, d] := by
  have z : ∀ x, okW x = true → x.toNat / 16 ^ 8 = 0 := by
    intro x h
    simp only [okW, decide_eq_true_eq] at h
    omega
  have h1 := pz_word a ha 0 (hexW b 8 ++ (hexW c 8 ++ hexW d 8)) 8 [0, 0, 0, 0] (by omega) (by decide) (by rw [z a ha]; rfl)
  have h2 := pz_word b hb 1 (hexW c 8 ++ hexW d 8) 8 [a, 0, 0, 0] (by omega) (by simp) (by rw [z b hb]; rfl)
  have h3 := pz_word c hc 2 (hexW d 8) 8 [a, b, 0, 0] (by omega) (by simp) (by rw [z c hc]; rfl)
  have h4 := pz_word d hd 3 [] 8 [a, b, c, 0] (by omega) (by simp) (by rw [z d hd]; rfl)
  rw [List.append_nil] at h4
  simp only [Nat.mul_zero, Nat.sub_self, Nat.add_zero, Nat.mul_one, Nat.zero_add, List.set_cons_zero, List.set_cons_succ] at h1 h2 h3 h4
  rw [qtext, h1, h2, h3, h4]
  rfl

theorem d_text6 {E : Env} (h6 : E 6 = some (.prim pText)) (a b c d : Int) (ha : okW a = true) (hb : okW b = true) (hc : okW c = true) (hd : okW d = true) (hp : Hp) :
    deepE E (Call E) 6 [.agg [.int .u32 a, .int .u32 b, .int .u32 c, .int .u32 d]] hp = some (.str (qtext a b c d)) := by
  rw [deep_prim h6, deep_go]
  simp only [mapO_nil, mapO_cons, consO_some, snapA_agg, snapC_int, aggO_some]
  have := Call_prim (E := E) h6 [.agg [.int .u32 a, .int .u32 b, .int .u32 c, .int .u32 d]] []
  simp only [pText, ha, hb, hc, hd, Bool.and_self, if_true, Option.map_some] at this
  simp only [goD, this, qtext]
  rfl

theorem parse_text (a b c d : Int) (ha : okW a = true) (hb : okW b = true) (hc : okW c = true) (hd : okW d = true) : parseS (qtext a b c d) = .tup [.agg [.int .u32 a, .int .u32 b, .int .u32 c, .int .u32 d], .int .i64 0] := by
  rw [parseS, if_pos (qtext_len a b c d), pz_text a b c d ha hb hc hd]
  rfl
theorem parse_other (s : List UInt8) (h : s.length ≠ 32) : parseS s = .tup [.agg [.int .u32 0, .int .u32 0, .int .u32 0, .int .u32 0], .int .i64 7] := by
  rw [parseS, if_neg h]; rfl
theorem parse_A (s : List UInt8) : parseS (65 :: s) = .tup [.agg [.int .u32 0, .int .u32 0, .int .u32 0, .int .u32 0], .int .i64 7] := by
  rw [parseS]
  split
  · have : pz (65 :: s) 0 [0, 0, 0, 0] = none := by simp only [pz, show hv 65 = none by decide]
    rw [this]; rfl
  · rfl

theorem eqvS_four (a b c d : Int) : eqvS false true [.i, .i, .i, .i] (.agg [.int .u32 a, .int .u32 b, .int .u32 c, .int .u32 d]) (.agg [.int .u32 a, .int .u32 b, .int .u32 c, .int .u32 d]) = some (.bool true) := by
  simp [eqvS, eqV, eqK, eqSc]

theorem c_back {E : Env} (h24 : E 24 = some (.prim pIndexByte)) (h6 : E 6 = some (.prim pText)) (h7 : E 7 = some (.code c7)) (h2 : E 2 = some (.code c2)) {g8 : Fun} (h8 : E 8 = some g8) (h8d : g8.isDeep = true)
    (hsane : ∀ hp, deepE E (Call E) 8 [] hp = some (.bool true)) (a b c d : Int) (ha : okW a = true) (hb : okW b = true) (hc : okW c = true) (hd : okW d = true) :
    ∃ hp, Call E 2 [.agg [.int .u32 a, .int .u32 b, .int .u32 c, .int .u32 d]] [] = some (.bool true, hp) := by
  rw [Call_mk E h2 _ _ rfl]
  have ht := fun hp => d_text6 h6 a b c d ha hb hc hd hp
  have hlen := qtext_len a b c d
  generalize hT : qtext a b c d = T at *
  have hlen' : (T.length : Int) = 32 := by omega
  have hp1 := fun hp => d_parse7 h24 h7 T (by omega) hp
  rw [← hT, parse_text a b c d ha hb hc hd, hT] at hp1
  have hp2 := fun hp => d_parse7 h24 h7 (T ++ [48]) (by simp; omega) hp
  rw [parse_other _ (by simp; omega)] at hp2
  have hp3 := fun hp => d_parse7 h24 h7 (T.take 31) (by simp; omega) hp
  rw [parse_other _ (by simp; omega)] at hp3
  have hp4 := fun hp => d_parse7 h24 h7 (65 :: T.drop 1) (by simp; omega) hp
  rw [parse_A] at hp4
  have b1 : binS .add (.str T) (.str [48]) = some (.str (T ++ [48])) := by simp [binS, binT]; omega
  have b2 : ∀ vars hp, sliceV vars hp none (.str T) none (some (.int .i64 31)) = some (.str (T.take 31)) := by
    intro vars hp
    simp [sliceV, sliceR, bnd, hlen]
  have b3 : ∀ vars hp, sliceV vars hp none (.str T) (some (.int .i64 1)) none = some (.str (T.drop 1)) := by
    intro vars hp
    have : List.take T.length T = T := List.take_length ..
    simp [sliceV, sliceR, bnd, hlen]
    rw [← hlen, this]
  have b4 : binS .add (.str [65]) (.str (T.drop 1)) = some (.str (65 :: T.drop 1)) := by simp [binS, binT]; omega
  have m1 : mmS true (.int .i64 0) (.int .i64 31) = some (.int .i64 31) := rfl
  have m2 : mmS false (.int .i64 1) (.int .i64 32) = some (.int .i64 1) := rfl
  have w1 : IntKind.i64.wrap (32 - 1) = 31 := rfl
  refine ⟨[], ?_⟩
  simp only [Aa, Ab, Ac, Ad, Ae, Af, Ag, Ah, Ai, Aj, Ak, Al, Am, Ao, Ap, Aq, Ar, Au, Av, Aw, Ay, Az, Ba, Bb, Bc, Bd, Be, Bf, Bg, Bh, Bi, Bj, Bk, Bl, Bm, Bn, Bo, Bp, Bq, Br, Bs, Bt, Bv, Bw, Bx, Bz, Ca, Cb, Cc, Cd, Ce, Cf, Cg, Ch, Ci, Cj, Ck, Cl, Cm, Cn, Co, Cp, Cq, Cr, Cs, Ct, Cu, Cv, Cw, Cy, Cz, Da, Db, Dc, De, Df, Dg, Dh, Di, Dj, Dk, Dl, Dm, Dn, Option.map_some, Dp, Dq, Dr, Dt, Du, Dv, Dw, Dx, Dy, Dz, Ea, Eb, Ec, Ed, Ee, Ef, Eg, Eh, Ei, Ej, Ek, El, Em, Eo, Ep, Er, Es, Et, Eu, Ev, Ew, Ey, Ez, Fa, Fb, Fc, Fe, Ff, Fg, Fh, Fj, Fl, Fm, Fp, Fq, Fs, Ft, Fu, Fv, Fw, Fx, Fy, Fz, Ga, Gb, Gc, Gd, Ge, Gf, Gg, Gh, Gi, Gj, Nat.reduceEqDiff, Nat.reduceAdd, Nat.reduceMul, Nat.reduceLT, Nat.reduceLeDiff, ↓reduceIte, Ml, Mm, Nat.reduceBEq, Mn, Mo, Mp, Mq, reduceCtorEq, Mr, Ms, Gk, Gl, Gm, Gn, Gp, Gq, Gr, Gs, Gt, Gu, Gv, Gw, Gx, Gy, Gz, Ha, Hb, Hc, Hd, He, Hf, Hg, Hh, Hj, Hk, Hl, Hm, Hn, Ho, Hq, Hr, Hs, Ht, Hu, Hv, Hw, Hy, Hz, Ia, Ib, Ic, Ie, Ig, Ih, Ii, Ij, Ik, Il, Im, Io, Ip, Iq, Ir, Iu, Iv, Iw, Iy, Iz, Ja, Jb, Jc, Jd, Je, Jf, Jg, Jh, Ji, Jj, Jk, Jl, Jm, Jn, Jo, Jp, Jq, Jr, Js, Jt, Ju, Jv, Jw, Jy, Jz, Ka, Kb, Kc, Ke, Kf, Kg, Kh, Ki, Kj, Kk, Kl, Km, Kn, Ko, Kq, Kr, Ks, Kt, Ku, Kv, Kw, Kx, Ky, Kz, La, Lb, Lc, Ld, Le, Lf, Lg, Lh, Li, Lj, Ll, Lm, Ln, Lp, and_self, true_and, and_true, Mt, Mu, Mv, Mw, Mx, My, Mz, Na, Nb, Nc, Nd, Nf, Ng, Nh, Int.reduceToNat, Int.reduceLT, Int.reduceEq, Int.reduceLE, List.getElem?_cons_zero, List.getElem?_cons_succ, Lr, Ls, Lt, Ni, Nj, Nk, Nl, gt_iff_lt, ge_iff_le, Lu, Lv, Lw, Lx, Ly, Ma, Nn, Np, Mb, Mc, Md, Me, Mf, Mg, Mh, Mi, Mj, Mk, Nq, Nr, op_call_deep _ _ h6 rfl, op_call_deep _ _ h7 rfl, op_call_deep _ _ h8 h8d, ht, hp1, hp2, hp3, hp4, b1, b2, b3, b4, m1, m2, w1, hlen', hsane, eqvS_four, decide_true]
end Go.Proofs.Ytkafliflpplpeaa.Sim
namespace Go.Proofs.Ytkafliflpplpeaa.Sim
set_option linter.unusedSimpArgs false
set_option linter.unusedVariables false
open Go
set_option maxRecDepth 100000
set_option linter.unusedSimpArgs false

theorem onF_deep {E : Env} {C : CallF} {g : Nat} {q : Fun} (hE : E g = some q) (hd : q.isDeep = true) (d os fr vars hp args caps) :
    onF E C d os fr vars hp args (.fn g caps) = onV E C d os ⟨fr, vars, hp⟩ (deepE E C g (args ++ caps) hp) := by
  simp only [onF, hE, hd, if_true]

def ror (x : Int) (n : Nat) : Int := ibit .or .u32 (ishr .u32 x n) (ishl .u32 x (32 - n))

theorem d_ror {E : Env} (h10 : E 10 = some (.code c10)) (x : Int) (n : Nat) (hn : n < 32) (hp : Hp) : deepE E (Call E) 10 [.int .u32 x, .int .u64 n] hp = some (.int .u32 (ror x n)) := by
  rw [deep_code h10 rfl, deep_go]
  simp only [mapO_nil, mapO_cons, consO_some, snapA_int, goD_some]
  rw [Call_mk E h10 _ _ rfl]
  have h2 : IntKind.u64.wrap (32 - (n : Int)) = ((32 - n : Nat) : Int) := by
    have : ∀ m < 32, IntKind.u64.wrap (32 - ((m : Nat) : Int)) = ((32 - m : Nat) : Int) := by decide
    exact this n hn
  have h3 : ¬ ((n : Int) < 0) := by omega
  have h4 : ¬ (((32 - n : Nat) : Int) < 0) := by omega
  simp only [Aa, Ab, Ac, Ad, Ae, Af, Ag, Ah, Ai, Aj, Ak, Al, Am, Ao, Ap, Aq, Ar, Au, Av, Aw, Ay, Az, Ba, Bb, Bc, Bd, Be, Bf, Bg, Bh, Bi, Bj, Bk, Bl, Bm, Bn, Bo, Bp, Bq, Br, Bs, Bt, Bv, Bw, Bx, Bz, Ca, Cb, Cc, Cd, Ce, Cf, Cg, Ch, Ci, Cj, Ck, Cl, Cm, Cn, Co, Cp, Cq, Cr, Cs, Ct, Cu, Cv, Cw, Cy, Cz, Da, Db, Dc, De, Df, Dg, Dh, Di, Dj, Dk, Dl, Dm, Dn, Option.map_some, Dp, Dq, Dr, Dt, Du, Dv, Dw, Dx, Dy, Dz, Ea, Eb, Ec, Ed, Ee, Ef, Eg, Eh, Ei, Ej, Ek, El, Em, Eo, Ep, Er, Es, Et, Eu, Ev, Ew, Ey, Ez, Fa, Fb, Fc, Fe, Ff, Fg, Fh, Fj, Fl, Fm, Fp, Fq, Fs, Ft, Fu, Fv, Fw, Fx, Fy, Fz, Ga, Gb, Gc, Gd, Ge, Gf, Gg, Gh, Gi, Gj, Nat.reduceEqDiff, Nat.reduceAdd, Nat.reduceMul, Nat.reduceLT, Nat.reduceLeDiff, ↓reduceIte, Ml, Mm, Nat.reduceBEq, Mn, Mo, Mp, Mq, reduceCtorEq, Mr, Ms, Gk, Gl, Gm, Gn, Gp, Gq, Gr, Gs, Gt, Gu, Gv, Gw, Gx, Gy, Gz, Ha, Hb, Hc, Hd, He, Hf, Hg, Hh, Hj, Hk, Hl, Hm, Hn, Ho, Hq, Hr, Hs, Ht, Hu, Hv, Hw, Hy, Hz, Ia, Ib, Ic, Ie, Ig, Ih, Ii, Ij, Ik, Il, Im, Io, Ip, Iq, Ir, Iu, Iv, Iw, Iy, Iz, Ja, Jb, Jc, Jd, Je, Jf, Jg, Jh, Ji, Jj, Jk, Jl, Jm, Jn, Jo, Jp, Jq, Jr, Js, Jt, Ju, Jv, Jw, Jy, Jz, Ka, Kb, Kc, Ke, Kf, Kg, Kh, Ki, Kj, Kk, Kl, Km, Kn, Ko, Kq, Kr, Ks, Kt, Ku, Kv, Kw, Kx, Ky, Kz, La, Lb, Lc, Ld, Le, Lf, Lg, Lh, Li, Lj, Ll, Lm, Ln, Lp, and_self, true_and, and_true, Mt, Mu, Mv, Mw, Mx, My, Mz, Na, Nb, Nc, Nd, Nf, Ng, Nh, Int.reduceToNat, Int.reduceLT, Int.reduceEq, Int.reduceLE, List.getElem?_cons_zero, List.getElem?_cons_succ, Lr, Ls, Lt, Ni, Nj, Nk, Nl, gt_iff_lt, ge_iff_le, Lu, Lv, Lw, Lx, Ly, Ma, Nn, Np, Mb, Mc, Md, Me, Mf, Mg, Mh, Mi, Mj, Mk, Nq, Nr, h2, h3, h4, Int.toNat_natCast, ror]

/-! Words as bit vectors. -/
def wv (v : BitVec 32) : Int := (v.toNat : Int)
theorem wv_of {x : Int} (h : okW x = true) : x = wv (BitVec.ofNat 32 x.toNat) := by
  simp only [okW, decide_eq_true_eq] at h
  simp only [wv, BitVec.toNat_ofNat]
  omega
theorem wv_ok (v : BitVec 32) : okW (wv v) = true := by
  have := v.isLt
  exact decide_eq_true (p := 0 ≤ (v.toNat : Int) ∧ (v.toNat : Int) < 4294967296) ⟨by omega, by omega⟩
theorem ofInt_wv (v : BitVec 32) : BitVec.ofInt IntKind.u32.bits (wv v) = v := by
  show BitVec.ofInt 32 (wv v) = v
  simp [wv]
theorem wrap_wv (v : BitVec 32) : IntKind.u32.wrap (v.toNat : Int) = wv v := by
  have := v.isLt
  exact wrap_u32 (n := (v.toNat : Int)) (by omega) (by omega)
theorem ibit_or_wv (v w : BitVec 32) : ibit .or .u32 (wv v) (wv w) = wv (v ||| w) := by
  simp only [ibit, ofInt_wv]; exact wrap_wv (v ||| w)
theorem ibit_xor_wv (v w : BitVec 32) : ibit .xor .u32 (wv v) (wv w) = wv (v ^^^ w) := by
  simp only [ibit, ofInt_wv]; exact wrap_wv (v ^^^ w)
theorem wrap_mod (x : Int) : IntKind.u32.wrap x = x % 4294967296 := by
  have := IntKind.wrap_u32
  simp [IntKind.wrap, IntKind.bits, IntKind.signed]
theorem ishl_wv (v : BitVec 32) (n : Nat) (hn : n ≤ 32) : ishl .u32 (wv v) n = wv (v <<< n) := by
  simp only [ishl]
  rw [show min n IntKind.u32.bits = n from Nat.min_eq_left hn, wrap_mod]
  simp only [wv, BitVec.toNat_shiftLeft, Nat.shiftLeft_eq]
  rw [show ((v.toNat : Int) * 2 ^ n) = ((v.toNat * 2 ^ n : Nat) : Int) by rw [Int.natCast_mul, Int.natCast_pow]; rfl]
  generalize v.toNat * 2 ^ n = z
  show (z : Int) % 4294967296 = ((z % 4294967296 : Nat) : Int)
  omega
theorem ishr_wv (v : BitVec 32) (n : Nat) (hn : n ≤ 32) : ishr .u32 (wv v) n = wv (v >>> n) := by
  simp only [ishr]
  rw [show min n IntKind.u32.bits = n from Nat.min_eq_left hn]
  simp only [wv, BitVec.toNat_ushiftRight, Nat.shiftRight_eq_div_pow]
  rw [Int.fdiv_eq_ediv_of_nonneg _ (by exact Int.pow_nonneg (by decide))]
  push_cast
  rfl
theorem add_wv (v w : BitVec 32) : w32 (wv v + wv w) = wv (v + w) := by
  simp only [w32, wrap_mod, wv, BitVec.toNat_add]
  show ((v.toNat : Int) + w.toNat) % 4294967296 = (((v.toNat + w.toNat) % 4294967296 : Nat) : Int)
  omega
theorem sub_wv (v w : BitVec 32) : w32 (wv v - wv w) = wv (v - w) := by
  have h1 := v.isLt; have h2 := w.isLt
  simp only [w32, wrap_mod, wv, BitVec.toNat_sub]
  omega
theorem rol_wv (v : BitVec 32) (n : Nat) (hn : n ≤ 32) : rol (wv v) n = wv (v <<< n ||| v >>> (32 - n)) := by
  rw [rol, ishl_wv v n hn, ishr_wv v (32 - n) (by omega), ibit_or_wv]
theorem ror_wv (v : BitVec 32) (n : Nat) (hn : n ≤ 32) : ror (wv v) n = wv (v >>> n ||| v <<< (32 - n)) := by
  rw [ror, ishl_wv v (32 - n) (by omega), ishr_wv v n hn, ibit_or_wv]
theorem rot_bv (v : BitVec 32) (n : Nat) (h0 : 0 < n) (hn : n < 32) : (v <<< n ||| v >>> (32 - n)) >>> n ||| (v <<< n ||| v >>> (32 - n)) <<< (32 - n) = v := by
  apply BitVec.eq_of_getLsbD_eq
  intro i hi
  simp only [BitVec.getLsbD_or, BitVec.getLsbD_ushiftRight, BitVec.getLsbD_shiftLeft]
  by_cases h : i < 32 - n
  · have h1 : n + i < 32 := by omega
    have h2 : v.getLsbD (32 - n + (n + i)) = false := BitVec.getLsbD_of_ge _ _ (by omega)
    simp [h, h1, h2]
  · have h1 : ¬ n + i < 32 := by omega
    have h2 : v.getLsbD (32 - n + (n + i)) = false := BitVec.getLsbD_of_ge _ _ (by omega)
    have h3 : i - (32 - n) < n := by omega
    have h4 : 32 - n + (i - (32 - n)) = i := by omega
    simp [h, h1, h2, h3, h4, hi]
theorem ror_rol {x : Int} (hx : okW x = true) (n : Nat) (h0 : 0 < n) (hn : n < 32) : ror (rol x n) n = x := by
  rw [wv_of hx, rol_wv _ n (by omega), ror_wv _ n (by omega), rot_bv _ n h0 hn]
theorem xor_back {x y : Int} (hx : okW x = true) (hy : okW y = true) : x32 (x32 x y) y = x := by
  rw [wv_of hx, wv_of hy, x32, x32, ibit_xor_wv, ibit_xor_wv, BitVec.xor_assoc, BitVec.xor_self, BitVec.xor_zero]
theorem sub_back {x y : Int} (hx : okW x = true) (hy : okW y = true) : w32 (w32 (x + y) - y) = x := by
  rw [wv_of hx, wv_of hy, add_wv, sub_wv, BitVec.add_sub_cancel]
theorem ok_add {x y : Int} (hx : okW x = true) (hy : okW y = true) : okW (w32 (x + y)) = true := by
  rw [wv_of hx, wv_of hy, add_wv]; exact wv_ok _
theorem ok_xor {x y : Int} (hx : okW x = true) (hy : okW y = true) : okW (x32 x y) = true := by
  rw [wv_of hx, wv_of hy, x32, ibit_xor_wv]; exact wv_ok _
theorem ok_rol {x : Int} (hx : okW x = true) (n : Nat) (hn : n ≤ 32) : okW (rol x n) = true := by
  rw [wv_of hx, rol_wv _ n hn]; exact wv_ok _

def Q.ok (q : Q) : Prop := okW q.a = true ∧ okW q.b = true ∧ okW q.c = true ∧ okW q.d = true

/-- One round back. -/
def unr (q : Q) : Q :=
  let c := ror q.c 16
  let b := ror (x32 q.b c) 7
  let c := w32 (c - b)
  let d := ror (x32 q.d q.a) 13
  let a := w32 (q.a - d)
  let d := ror (x32 d c) 8
  let c := w32 (c - d)
  let a := ror a 16
  let b := ror (x32 b a) 5
  let a := w32 (a - b)
  ⟨a, b, c, d⟩

theorem rnd_ok {q : Q} (h : q.ok) : (rnd q).ok := by
  obtain ⟨ha, hb, hc, hd⟩ := h
  have a1 := ok_add ha hb
  have b1 := ok_xor (ok_rol hb 5 (by decide)) a1
  have a2 := ok_rol a1 16 (by decide)
  have c1 := ok_add hc hd
  have d1 := ok_xor (ok_rol hd 8 (by decide)) c1
  have a3 := ok_add a2 d1
  have d2 := ok_xor (ok_rol d1 13 (by decide)) a3
  have c2 := ok_add c1 b1
  have b2 := ok_xor (ok_rol b1 7 (by decide)) c2
  exact ⟨a3, b2, ok_rol c2 16 (by decide), d2⟩

theorem unr_rnd {q : Q} (h : q.ok) : unr (rnd q) = q := by
  obtain ⟨ha, hb, hc, hd⟩ := h
  have a1 := ok_add ha hb
  have b1 := ok_xor (ok_rol hb 5 (by decide)) a1
  have a2 := ok_rol a1 16 (by decide)
  have c1 := ok_add hc hd
  have d1 := ok_xor (ok_rol hd 8 (by decide)) c1
  have a3 := ok_add a2 d1
  have d2 := ok_xor (ok_rol d1 13 (by decide)) a3
  have c2 := ok_add c1 b1
  simp only [unr, rnd]
  simp only [ror_rol c2 16 (by decide) (by decide), xor_back (ok_rol b1 7 (by decide)) c2, ror_rol b1 7 (by decide) (by decide), sub_back c1 b1, xor_back (ok_rol d1 13 (by decide)) a3, ror_rol d1 13 (by decide) (by decide), sub_back a2 d1,
    xor_back (ok_rol hd 8 (by decide)) c1, ror_rol hd 8 (by decide) (by decide), sub_back hc hd, ror_rol a1 16 (by decide) (by decide), xor_back (ok_rol hb 5 (by decide)) a1, ror_rol hb 5 (by decide) (by decide), sub_back ha hb]

def unrs : Nat → Q → Q
  | 0, q => q
  | n + 1, q => unrs n (unr q)

theorem rnds_end : ∀ (n : Nat) (q : Q), rnds (n + 1) q = rnd (rnds n q)
  | 0, q => rfl
  | n + 1, q => by rw [rnds, rnds_end n (rnd q)]; rfl
theorem rnds_ok : ∀ (n : Nat) {q : Q}, q.ok → (rnds n q).ok
  | 0, _, h => h
  | n + 1, _, h => rnds_ok n (rnd_ok h)
theorem unrs_rnds : ∀ (n : Nat) {q : Q}, q.ok → unrs n (rnds n q) = q
  | 0, _, _ => rfl
  | n + 1, q, h => by
    rw [rnds_end, unrs, unr_rnd (rnds_ok n h)]
    exact unrs_rnds n h

theorem loop3 {E : Env} (h10 : E 10 = some (.code c10)) (vars : Vars) (b1 b3 : Blk) (hv : vars = [(1, b1), (3, b3)]) : ∀ (n : Nat) (i : Int) (q : Q), 0 ≤ i → i + n = 12 →
    blockR 0 [1, 4, 5, 6, 7] (loopR E [1, 4, 5, 6, 7, 8, 9] l3_0 ⟨[(1, .loc 1 0), (4, .int .u32 q.a), (5, .int .u32 q.b), (6, .int .u32 q.c), (7, .int .u32 q.d), (8, .fn 10 []), (9, .int .i64 i)], [(1, b1)], []⟩) =
      some (.norm, ⟨[(1, .loc 1 0), (4, .int .u32 (unrs n q).a), (5, .int .u32 (unrs n q).b), (6, .int .u32 (unrs n q).c), (7, .int .u32 (unrs n q).d)], [(1, b1)], []⟩)
  | 0, i, q, hi, h => by
    have h1 : ¬ i < 12 := by omega
    rw [loopR, l3_0]
    simp only [Aa, Ab, Ac, Ad, Ae, Af, Ag, Ah, Ai, Aj, Ak, Al, Am, Ao, Ap, Aq, Ar, Au, Av, Aw, Ay, Az, Ba, Bb, Bc, Bd, Be, Bf, Bg, Bh, Bi, Bj, Bk, Bl, Bm, Bn, Bo, Bp, Bq, Br, Bs, Bt, Bv, Bw, Bx, Bz, Ca, Cb, Cc, Cd, Ce, Cf, Cg, Ch, Ci, Cj, Ck, Cl, Cm, Cn, Co, Cp, Cq, Cr, Cs, Ct, Cu, Cv, Cw, Cy, Cz, Da, Db, Dc, De, Df, Dg, Dh, Di, Dj, Dk, Dl, Dm, Dn, Option.map_some, Dp, Dq, Dr, Dt, Du, Dv, Dw, Dx, Dy, Dz, Ea, Eb, Ec, Ed, Ee, Ef, Eg, Eh, Ei, Ej, Ek, El, Em, Eo, Ep, Er, Es, Et, Eu, Ev, Ew, Ey, Ez, Fa, Fb, Fc, Fe, Ff, Fg, Fh, Fj, Fl, Fm, Fp, Fq, Fs, Ft, Fu, Fv, Fw, Fx, Fy, Fz, Ga, Gb, Gc, Gd, Ge, Gf, Gg, Gh, Gi, Gj, Nat.reduceEqDiff, Nat.reduceAdd, Nat.reduceMul, Nat.reduceLT, Nat.reduceLeDiff, ↓reduceIte, Ml, Mm, Nat.reduceBEq, Mn, Mo, Mp, Mq, reduceCtorEq, Mr, Ms, Gk, Gl, Gm, Gn, Gp, Gq, Gr, Gs, Gt, Gu, Gv, Gw, Gx, Gy, Gz, Ha, Hb, Hc, Hd, He, Hf, Hg, Hh, Hj, Hk, Hl, Hm, Hn, Ho, Hq, Hr, Hs, Ht, Hu, Hv, Hw, Hy, Hz, Ia, Ib, Ic, Ie, Ig, Ih, Ii, Ij, Ik, Il, Im, Io, Ip, Iq, Ir, Iu, Iv, Iw, Iy, Iz, Ja, Jb, Jc, Jd, Je, Jf, Jg, Jh, Ji, Jj, Jk, Jl, Jm, Jn, Jo, Jp, Jq, Jr, Js, Jt, Ju, Jv, Jw, Jy, Jz, Ka, Kb, Kc, Ke, Kf, Kg, Kh, Ki, Kj, Kk, Kl, Km, Kn, Ko, Kq, Kr, Ks, Kt, Ku, Kv, Kw, Kx, Ky, Kz, La, Lb, Lc, Ld, Le, Lf, Lg, Lh, Li, Lj, Ll, Lm, Ln, Lp, and_self, true_and, and_true, Mt, Mu, Mv, Mw, Mx, My, Mz, Na, Nb, Nc, Nd, Nf, Ng, Nh, Int.reduceToNat, Int.reduceLT, Int.reduceEq, Int.reduceLE, List.getElem?_cons_zero, List.getElem?_cons_succ, Lr, Ls, Lt, Ni, Nj, Nk, Nl, gt_iff_lt, ge_iff_le, Lu, Lv, Lw, Lx, Ly, Ma, Nn, Np, Mb, Mc, Md, Me, Mf, Mg, Mh, Mi, Mj, Mk, Nq, Nr, h1, decide_false, unrs]
  | n + 1, i, q, hi, h => by
    have ih := loop3 h10 vars b1 b3 hv n (i + 1) (unr q) (by omega) (by omega)
    have h1 : i < 12 := by omega
    have h2 : IntKind.i64.wrap (i + 1) = i + 1 := wrap_i64 (by omega) (by omega)
    have r16 := fun x hp => d_ror h10 x 16 (by decide) hp
    have r7 := fun x hp => d_ror h10 x 7 (by decide) hp
    have r13 := fun x hp => d_ror h10 x 13 (by decide) hp
    have r8 := fun x hp => d_ror h10 x 8 (by decide) hp
    have r5 := fun x hp => d_ror h10 x 5 (by decide) hp
    simp only [Int.cast_ofNat_Int] at r16 r7 r13 r8 r5
    rw [loopR]
    conv => lhs; arg 3; arg 1; rw [l3_0]
    simp only [Aa, Ab, Ac, Ad, Ae, Af, Ag, Ah, Ai, Aj, Ak, Al, Am, Ao, Ap, Aq, Ar, Au, Av, Aw, Ay, Az, Ba, Bb, Bc, Bd, Be, Bf, Bg, Bh, Bi, Bj, Bk, Bl, Bm, Bn, Bo, Bp, Bq, Br, Bs, Bt, Bv, Bw, Bx, Bz, Ca, Cb, Cc, Cd, Ce, Cf, Cg, Ch, Ci, Cj, Ck, Cl, Cm, Cn, Co, Cp, Cq, Cr, Cs, Ct, Cu, Cv, Cw, Cy, Cz, Da, Db, Dc, De, Df, Dg, Dh, Di, Dj, Dk, Dl, Dm, Dn, Option.map_some, Dp, Dq, Dr, Dt, Du, Dv, Dw, Dx, Dy, Dz, Ea, Eb, Ec, Ed, Ee, Ef, Eg, Eh, Ei, Ej, Ek, El, Em, Eo, Ep, Er, Es, Et, Eu, Ev, Ew, Ey, Ez, Fa, Fb, Fc, Fe, Ff, Fg, Fh, Fj, Fl, Fm, Fp, Fq, Fs, Ft, Fu, Fv, Fw, Fx, Fy, Fz, Ga, Gb, Gc, Gd, Ge, Gf, Gg, Gh, Gi, Gj, Nat.reduceEqDiff, Nat.reduceAdd, Nat.reduceMul, Nat.reduceLT, Nat.reduceLeDiff, ↓reduceIte, Ml, Mm, Nat.reduceBEq, Mn, Mo, Mp, Mq, reduceCtorEq, Mr, Ms, Gk, Gl, Gm, Gn, Gp, Gq, Gr, Gs, Gt, Gu, Gv, Gw, Gx, Gy, Gz, Ha, Hb, Hc, Hd, He, Hf, Hg, Hh, Hj, Hk, Hl, Hm, Hn, Ho, Hq, Hr, Hs, Ht, Hu, Hv, Hw, Hy, Hz, Ia, Ib, Ic, Ie, Ig, Ih, Ii, Ij, Ik, Il, Im, Io, Ip, Iq, Ir, Iu, Iv, Iw, Iy, Iz, Ja, Jb, Jc, Jd, Je, Jf, Jg, Jh, Ji, Jj, Jk, Jl, Jm, Jn, Jo, Jp, Jq, Jr, Js, Jt, Ju, Jv, Jw, Jy, Jz, Ka, Kb, Kc, Ke, Kf, Kg, Kh, Ki, Kj, Kk, Kl, Km, Kn, Ko, Kq, Kr, Ks, Kt, Ku, Kv, Kw, Kx, Ky, Kz, La, Lb, Lc, Ld, Le, Lf, Lg, Lh, Li, Lj, Ll, Lm, Ln, Lp, and_self, true_and, and_true, Mt, Mu, Mv, Mw, Mx, My, Mz, Na, Nb, Nc, Nd, Nf, Ng, Nh, Int.reduceToNat, Int.reduceLT, Int.reduceEq, Int.reduceLE, List.getElem?_cons_zero, List.getElem?_cons_succ, Lr, Ls, Lt, Ni, Nj, Nk, Nl, gt_iff_lt, ge_iff_le, Lu, Lv, Lw, Lx, Ly, Ma, Nn, Np, Mb, Mc, Md, Me, Mf, Mg, Mh, Mi, Mj, Mk, Nq, Nr, h1, decide_true, op_callv, onF_deep h10 rfl, List.append_nil, r16, r7, r13, r8, r5, h2]
    exact ih

theorem c_undone {E : Env} (h25 : E 25 = some (.code c25)) (h9 : E 9 = some (.code c9)) (h10 : E 10 = some (.code c10)) (h3 : E 3 = some (.code c3)) {g8 : Fun} (h8 : E 8 = some g8) (h8d : g8.isDeep = true)
    (hsane : ∀ hp, deepE E (Call E) 8 [] hp = some (.bool true)) (q : Q) (hq : q.ok) : ∃ hp, Call E 3 [q.s] [] = some (.bool true, hp) := by
  rw [Call_mk E h3 _ _ rfl]
  have hl := loop3 h10 [(1, .rows false 4 [q.s]), (3, .rows false 4 [(perm q).s])] (.rows false 4 [q.s]) (.rows false 4 [(perm q).s]) rfl 12 0 (perm q) (by decide) (by decide)
  rw [show unrs 12 (perm q) = q from unrs_rnds 12 hq] at hl
  refine ⟨[], ?_⟩
  simp only [Q.s] at hl ⊢
  simp only [Aa, Ab, Ac, Ad, Ae, Af, Ag, Ah, Ai, Aj, Ak, Al, Am, Ao, Ap, Aq, Ar, Au, Av, Aw, Ay, Az, Ba, Bb, Bc, Bd, Be, Bf, Bg, Bh, Bi, Bj, Bk, Bl, Bm, Bn, Bo, Bp, Bq, Br, Bs, Bt, Bv, Bw, Bx, Bz, Ca, Cb, Cc, Cd, Ce, Cf, Cg, Ch, Ci, Cj, Ck, Cl, Cm, Cn, Co, Cp, Cq, Cr, Cs, Ct, Cu, Cv, Cw, Cy, Cz, Da, Db, Dc, De, Df, Dg, Dh, Di, Dj, Dk, Dl, Dm, Dn, Option.map_some, Dp, Dq, Dr, Dt, Du, Dv, Dw, Dx, Dy, Dz, Ea, Eb, Ec, Ed, Ee, Ef, Eg, Eh, Ei, Ej, Ek, El, Em, Eo, Ep, Er, Es, Et, Eu, Ev, Ew, Ey, Ez, Fa, Fb, Fc, Fe, Ff, Fg, Fh, Fj, Fl, Fm, Fp, Fq, Fs, Ft, Fu, Fv, Fw, Fx, Fy, Fz, Ga, Gb, Gc, Gd, Ge, Gf, Gg, Gh, Gi, Gj, Nat.reduceEqDiff, Nat.reduceAdd, Nat.reduceMul, Nat.reduceLT, Nat.reduceLeDiff, ↓reduceIte, Ml, Mm, Nat.reduceBEq, Mn, Mo, Mp, Mq, reduceCtorEq, Mr, Ms, Gk, Gl, Gm, Gn, Gp, Gq, Gr, Gs, Gt, Gu, Gv, Gw, Gx, Gy, Gz, Ha, Hb, Hc, Hd, He, Hf, Hg, Hh, Hj, Hk, Hl, Hm, Hn, Ho, Hq, Hr, Hs, Ht, Hu, Hv, Hw, Hy, Hz, Ia, Ib, Ic, Ie, Ig, Ih, Ii, Ij, Ik, Il, Im, Io, Ip, Iq, Ir, Iu, Iv, Iw, Iy, Iz, Ja, Jb, Jc, Jd, Je, Jf, Jg, Jh, Ji, Jj, Jk, Jl, Jm, Jn, Jo, Jp, Jq, Jr, Js, Jt, Ju, Jv, Jw, Jy, Jz, Ka, Kb, Kc, Ke, Kf, Kg, Kh, Ki, Kj, Kk, Kl, Km, Kn, Ko, Kq, Kr, Ks, Kt, Ku, Kv, Kw, Kx, Ky, Kz, La, Lb, Lc, Ld, Le, Lf, Lg, Lh, Li, Lj, Ll, Lm, Ln, Lp, and_self, true_and, and_true, Mt, Mu, Mv, Mw, Mx, My, Mz, Na, Nb, Nc, Nd, Nf, Ng, Nh, Int.reduceToNat, Int.reduceLT, Int.reduceEq, Int.reduceLE, List.getElem?_cons_zero, List.getElem?_cons_succ, Lr, Ls, Lt, Ni, Nj, Nk, Nl, gt_iff_lt, ge_iff_le, Lu, Lv, Lw, Lx, Ly, Ma, Nn, Np, Mb, Mc, Md, Me, Mf, Mg, Mh, Mi, Mj, Mk, Nq, Nr, op_call_deep _ _ h9 rfl, op_call_deep _ _ h8 h8d, d_perm9 h25 h9, hsane, Q.s, rd3_0, d3_0, eqvS_four]
  rw [hl]
  simp only [Aa, Ab, Ac, Ad, Ae, Af, Ag, Ah, Ai, Aj, Ak, Al, Am, Ao, Ap, Aq, Ar, Au, Av, Aw, Ay, Az, Ba, Bb, Bc, Bd, Be, Bf, Bg, Bh, Bi, Bj, Bk, Bl, Bm, Bn, Bo, Bp, Bq, Br, Bs, Bt, Bv, Bw, Bx, Bz, Ca, Cb, Cc, Cd, Ce, Cf, Cg, Ch, Ci, Cj, Ck, Cl, Cm, Cn, Co, Cp, Cq, Cr, Cs, Ct, Cu, Cv, Cw, Cy, Cz, Da, Db, Dc, De, Df, Dg, Dh, Di, Dj, Dk, Dl, Dm, Dn, Option.map_some, Dp, Dq, Dr, Dt, Du, Dv, Dw, Dx, Dy, Dz, Ea, Eb, Ec, Ed, Ee, Ef, Eg, Eh, Ei, Ej, Ek, El, Em, Eo, Ep, Er, Es, Et, Eu, Ev, Ew, Ey, Ez, Fa, Fb, Fc, Fe, Ff, Fg, Fh, Fj, Fl, Fm, Fp, Fq, Fs, Ft, Fu, Fv, Fw, Fx, Fy, Fz, Ga, Gb, Gc, Gd, Ge, Gf, Gg, Gh, Gi, Gj, Nat.reduceEqDiff, Nat.reduceAdd, Nat.reduceMul, Nat.reduceLT, Nat.reduceLeDiff, ↓reduceIte, Ml, Mm, Nat.reduceBEq, Mn, Mo, Mp, Mq, reduceCtorEq, Mr, Ms, Gk, Gl, Gm, Gn, Gp, Gq, Gr, Gs, Gt, Gu, Gv, Gw, Gx, Gy, Gz, Ha, Hb, Hc, Hd, He, Hf, Hg, Hh, Hj, Hk, Hl, Hm, Hn, Ho, Hq, Hr, Hs, Ht, Hu, Hv, Hw, Hy, Hz, Ia, Ib, Ic, Ie, Ig, Ih, Ii, Ij, Ik, Il, Im, Io, Ip, Iq, Ir, Iu, Iv, Iw, Iy, Iz, Ja, Jb, Jc, Jd, Je, Jf, Jg, Jh, Ji, Jj, Jk, Jl, Jm, Jn, Jo, Jp, Jq, Jr, Js, Jt, Ju, Jv, Jw, Jy, Jz, Ka, Kb, Kc, Ke, Kf, Kg, Kh, Ki, Kj, Kk, Kl, Km, Kn, Ko, Kq, Kr, Ks, Kt, Ku, Kv, Kw, Kx, Ky, Kz, La, Lb, Lc, Ld, Le, Lf, Lg, Lh, Li, Lj, Ll, Lm, Ln, Lp, and_self, true_and, and_true, Mt, Mu, Mv, Mw, Mx, My, Mz, Na, Nb, Nc, Nd, Nf, Ng, Nh, Int.reduceToNat, Int.reduceLT, Int.reduceEq, Int.reduceLE, List.getElem?_cons_zero, List.getElem?_cons_succ, Lr, Ls, Lt, Ni, Nj, Nk, Nl, gt_iff_lt, ge_iff_le, Lu, Lv, Lw, Lx, Ly, Ma, Nn, Np, Mb, Mc, Md, Me, Mf, Mg, Mh, Mi, Mj, Mk, Nq, Nr, op_call_deep _ _ h9 rfl, op_call_deep _ _ h8 h8d, d_perm9 h25 h9, hsane, Q.s, eqvS_four]
end Go.Proofs.Ytkafliflpplpeaa.Sim
namespace Go.Proofs.Ytkafliflpplpeaa.Sim
set_option linter.unusedSimpArgs false
set_option linter.unusedVariables false
open Go
set_option maxRecDepth 100000
set_option linter.unusedSimpArgs false

theorem d_rot26 {E : Env} (h26 : E 26 = some (.code c26)) (x : Int) (n : Nat) (hn : n < 32) (hp : Hp) : deepE E (Call E) 26 [.int .u32 x, .int .u64 n] hp = some (.int .u32 (rol x n)) := by
  rw [deep_code h26 rfl, deep_go]
  simp only [mapO_nil, mapO_cons, consO_some, snapA_int, goD_some]
  rw [Call_mk E h26 _ _ rfl]
  have h2 : IntKind.u64.wrap (32 - (n : Int)) = ((32 - n : Nat) : Int) := by
    have : ∀ m < 32, IntKind.u64.wrap (32 - ((m : Nat) : Int)) = ((32 - m : Nat) : Int) := by decide
    exact this n hn
  have h3 : ¬ ((n : Int) < 0) := by omega
  have h4 : ¬ (((32 - n : Nat) : Int) < 0) := by omega
  simp only [Aa, Ab, Ac, Ad, Ae, Af, Ag, Ah, Ai, Aj, Ak, Al, Am, Ao, Ap, Aq, Ar, Au, Av, Aw, Ay, Az, Ba, Bb, Bc, Bd, Be, Bf, Bg, Bh, Bi, Bj, Bk, Bl, Bm, Bn, Bo, Bp, Bq, Br, Bs, Bt, Bv, Bw, Bx, Bz, Ca, Cb, Cc, Cd, Ce, Cf, Cg, Ch, Ci, Cj, Ck, Cl, Cm, Cn, Co, Cp, Cq, Cr, Cs, Ct, Cu, Cv, Cw, Cy, Cz, Da, Db, Dc, De, Df, Dg, Dh, Di, Dj, Dk, Dl, Dm, Dn, Option.map_some, Dp, Dq, Dr, Dt, Du, Dv, Dw, Dx, Dy, Dz, Ea, Eb, Ec, Ed, Ee, Ef, Eg, Eh, Ei, Ej, Ek, El, Em, Eo, Ep, Er, Es, Et, Eu, Ev, Ew, Ey, Ez, Fa, Fb, Fc, Fe, Ff, Fg, Fh, Fj, Fl, Fm, Fp, Fq, Fs, Ft, Fu, Fv, Fw, Fx, Fy, Fz, Ga, Gb, Gc, Gd, Ge, Gf, Gg, Gh, Gi, Gj, Nat.reduceEqDiff, Nat.reduceAdd, Nat.reduceMul, Nat.reduceLT, Nat.reduceLeDiff, ↓reduceIte, Ml, Mm, Nat.reduceBEq, Mn, Mo, Mp, Mq, reduceCtorEq, Mr, Ms, Gk, Gl, Gm, Gn, Gp, Gq, Gr, Gs, Gt, Gu, Gv, Gw, Gx, Gy, Gz, Ha, Hb, Hc, Hd, He, Hf, Hg, Hh, Hj, Hk, Hl, Hm, Hn, Ho, Hq, Hr, Hs, Ht, Hu, Hv, Hw, Hy, Hz, Ia, Ib, Ic, Ie, Ig, Ih, Ii, Ij, Ik, Il, Im, Io, Ip, Iq, Ir, Iu, Iv, Iw, Iy, Iz, Ja, Jb, Jc, Jd, Je, Jf, Jg, Jh, Ji, Jj, Jk, Jl, Jm, Jn, Jo, Jp, Jq, Jr, Js, Jt, Ju, Jv, Jw, Jy, Jz, Ka, Kb, Kc, Ke, Kf, Kg, Kh, Ki, Kj, Kk, Kl, Km, Kn, Ko, Kq, Kr, Ks, Kt, Ku, Kv, Kw, Kx, Ky, Kz, La, Lb, Lc, Ld, Le, Lf, Lg, Lh, Li, Lj, Ll, Lm, Ln, Lp, and_self, true_and, and_true, Mt, Mu, Mv, Mw, Mx, My, Mz, Na, Nb, Nc, Nd, Nf, Ng, Nh, Int.reduceToNat, Int.reduceLT, Int.reduceEq, Int.reduceLE, List.getElem?_cons_zero, List.getElem?_cons_succ, Lr, Ls, Lt, Ni, Nj, Nk, Nl, gt_iff_lt, ge_iff_le, Lu, Lv, Lw, Lx, Ly, Ma, Nn, Np, Mb, Mc, Md, Me, Mf, Mg, Mh, Mi, Mj, Mk, Nq, Nr, h2, h3, h4, Int.toNat_natCast, rol]

theorem loop13 {E : Env} (h26 : E 26 = some (.code c26)) (vars : Vars) (b : Blk) (hv : vars = [(2, b)]) : ∀ (n : Nat) (i : Int) (q : Q), 0 ≤ i → i + n = 12 →
    blockR 0 [2, 3, 4, 5, 6] (loopR E [2, 3, 4, 5, 6, 7] l13_0 ⟨[(2, .loc 2 0), (3, .int .u32 q.a), (4, .int .u32 q.b), (5, .int .u32 q.c), (6, .int .u32 q.d), (7, .int .i64 i)], vars, []⟩) =
      some (.norm, ⟨[(2, .loc 2 0), (3, .int .u32 (rnds n q).a), (4, .int .u32 (rnds n q).b), (5, .int .u32 (rnds n q).c), (6, .int .u32 (rnds n q).d)], vars, []⟩)
  | 0, i, q, hi, h => by
    subst hv
    have h1 : ¬ i < 12 := by omega
    rw [loopR, l13_0]
    simp only [Aa, Ab, Ac, Ad, Ae, Af, Ag, Ah, Ai, Aj, Ak, Al, Am, Ao, Ap, Aq, Ar, Au, Av, Aw, Ay, Az, Ba, Bb, Bc, Bd, Be, Bf, Bg, Bh, Bi, Bj, Bk, Bl, Bm, Bn, Bo, Bp, Bq, Br, Bs, Bt, Bv, Bw, Bx, Bz, Ca, Cb, Cc, Cd, Ce, Cf, Cg, Ch, Ci, Cj, Ck, Cl, Cm, Cn, Co, Cp, Cq, Cr, Cs, Ct, Cu, Cv, Cw, Cy, Cz, Da, Db, Dc, De, Df, Dg, Dh, Di, Dj, Dk, Dl, Dm, Dn, Option.map_some, Dp, Dq, Dr, Dt, Du, Dv, Dw, Dx, Dy, Dz, Ea, Eb, Ec, Ed, Ee, Ef, Eg, Eh, Ei, Ej, Ek, El, Em, Eo, Ep, Er, Es, Et, Eu, Ev, Ew, Ey, Ez, Fa, Fb, Fc, Fe, Ff, Fg, Fh, Fj, Fl, Fm, Fp, Fq, Fs, Ft, Fu, Fv, Fw, Fx, Fy, Fz, Ga, Gb, Gc, Gd, Ge, Gf, Gg, Gh, Gi, Gj, Nat.reduceEqDiff, Nat.reduceAdd, Nat.reduceMul, Nat.reduceLT, Nat.reduceLeDiff, ↓reduceIte, Ml, Mm, Nat.reduceBEq, Mn, Mo, Mp, Mq, reduceCtorEq, Mr, Ms, Gk, Gl, Gm, Gn, Gp, Gq, Gr, Gs, Gt, Gu, Gv, Gw, Gx, Gy, Gz, Ha, Hb, Hc, Hd, He, Hf, Hg, Hh, Hj, Hk, Hl, Hm, Hn, Ho, Hq, Hr, Hs, Ht, Hu, Hv, Hw, Hy, Hz, Ia, Ib, Ic, Ie, Ig, Ih, Ii, Ij, Ik, Il, Im, Io, Ip, Iq, Ir, Iu, Iv, Iw, Iy, Iz, Ja, Jb, Jc, Jd, Je, Jf, Jg, Jh, Ji, Jj, Jk, Jl, Jm, Jn, Jo, Jp, Jq, Jr, Js, Jt, Ju, Jv, Jw, Jy, Jz, Ka, Kb, Kc, Ke, Kf, Kg, Kh, Ki, Kj, Kk, Kl, Km, Kn, Ko, Kq, Kr, Ks, Kt, Ku, Kv, Kw, Kx, Ky, Kz, La, Lb, Lc, Ld, Le, Lf, Lg, Lh, Li, Lj, Ll, Lm, Ln, Lp, and_self, true_and, and_true, Mt, Mu, Mv, Mw, Mx, My, Mz, Na, Nb, Nc, Nd, Nf, Ng, Nh, Int.reduceToNat, Int.reduceLT, Int.reduceEq, Int.reduceLE, List.getElem?_cons_zero, List.getElem?_cons_succ, Lr, Ls, Lt, Ni, Nj, Nk, Nl, gt_iff_lt, ge_iff_le, Lu, Lv, Lw, Lx, Ly, Ma, Nn, Np, Mb, Mc, Md, Me, Mf, Mg, Mh, Mi, Mj, Mk, Nq, Nr, h1, decide_false, rnds]
  | n + 1, i, q, hi, h => by
    have ih := loop13 h26 vars b hv n (i + 1) (rnd q) (by omega) (by omega)
    subst hv
    have h1 : i < 12 := by omega
    have h2 : IntKind.i64.wrap (i + 1) = i + 1 := wrap_i64 (by omega) (by omega)
    have r16 := fun x hp => d_rot26 h26 x 16 (by decide) hp
    have r7 := fun x hp => d_rot26 h26 x 7 (by decide) hp
    have r13 := fun x hp => d_rot26 h26 x 13 (by decide) hp
    have r8 := fun x hp => d_rot26 h26 x 8 (by decide) hp
    have r5 := fun x hp => d_rot26 h26 x 5 (by decide) hp
    simp only [Int.cast_ofNat_Int] at r16 r7 r13 r8 r5
    rw [loopR]
    conv => lhs; arg 3; arg 1; rw [l13_0]
    simp only [Aa, Ab, Ac, Ad, Ae, Af, Ag, Ah, Ai, Aj, Ak, Al, Am, Ao, Ap, Aq, Ar, Au, Av, Aw, Ay, Az, Ba, Bb, Bc, Bd, Be, Bf, Bg, Bh, Bi, Bj, Bk, Bl, Bm, Bn, Bo, Bp, Bq, Br, Bs, Bt, Bv, Bw, Bx, Bz, Ca, Cb, Cc, Cd, Ce, Cf, Cg, Ch, Ci, Cj, Ck, Cl, Cm, Cn, Co, Cp, Cq, Cr, Cs, Ct, Cu, Cv, Cw, Cy, Cz, Da, Db, Dc, De, Df, Dg, Dh, Di, Dj, Dk, Dl, Dm, Dn, Option.map_some, Dp, Dq, Dr, Dt, Du, Dv, Dw, Dx, Dy, Dz, Ea, Eb, Ec, Ed, Ee, Ef, Eg, Eh, Ei, Ej, Ek, El, Em, Eo, Ep, Er, Es, Et, Eu, Ev, Ew, Ey, Ez, Fa, Fb, Fc, Fe, Ff, Fg, Fh, Fj, Fl, Fm, Fp, Fq, Fs, Ft, Fu, Fv, Fw, Fx, Fy, Fz, Ga, Gb, Gc, Gd, Ge, Gf, Gg, Gh, Gi, Gj, Nat.reduceEqDiff, Nat.reduceAdd, Nat.reduceMul, Nat.reduceLT, Nat.reduceLeDiff, ↓reduceIte, Ml, Mm, Nat.reduceBEq, Mn, Mo, Mp, Mq, reduceCtorEq, Mr, Ms, Gk, Gl, Gm, Gn, Gp, Gq, Gr, Gs, Gt, Gu, Gv, Gw, Gx, Gy, Gz, Ha, Hb, Hc, Hd, He, Hf, Hg, Hh, Hj, Hk, Hl, Hm, Hn, Ho, Hq, Hr, Hs, Ht, Hu, Hv, Hw, Hy, Hz, Ia, Ib, Ic, Ie, Ig, Ih, Ii, Ij, Ik, Il, Im, Io, Ip, Iq, Ir, Iu, Iv, Iw, Iy, Iz, Ja, Jb, Jc, Jd, Je, Jf, Jg, Jh, Ji, Jj, Jk, Jl, Jm, Jn, Jo, Jp, Jq, Jr, Js, Jt, Ju, Jv, Jw, Jy, Jz, Ka, Kb, Kc, Ke, Kf, Kg, Kh, Ki, Kj, Kk, Kl, Km, Kn, Ko, Kq, Kr, Ks, Kt, Ku, Kv, Kw, Kx, Ky, Kz, La, Lb, Lc, Ld, Le, Lf, Lg, Lh, Li, Lj, Ll, Lm, Ln, Lp, and_self, true_and, and_true, Mt, Mu, Mv, Mw, Mx, My, Mz, Na, Nb, Nc, Nd, Nf, Ng, Nh, Int.reduceToNat, Int.reduceLT, Int.reduceEq, Int.reduceLE, List.getElem?_cons_zero, List.getElem?_cons_succ, Lr, Ls, Lt, Ni, Nj, Nk, Nl, gt_iff_lt, ge_iff_le, Lu, Lv, Lw, Lx, Ly, Ma, Nn, Np, Mb, Mc, Md, Me, Mf, Mg, Mh, Mi, Mj, Mk, Nq, Nr, h1, decide_true, op_call_deep _ _ h26 rfl, r5, r7, r8, r13, r16, h2]
    exact ih

theorem d_permute13 {E : Env} (h26 : E 26 = some (.code c26)) (h13 : E 13 = some (.code c13)) (q : Q) (hp : Hp) : deepE E (Call E) 13 [q.s] hp = some (perm q).s := by
  rw [deep_code h13 rfl, deep_go]
  simp only [Q.s, mapO_nil, mapO_cons, consO_some, snapA_agg, snapC_int, aggO_some, goD_some]
  rw [Call_mk E h13 _ _ rfl]
  have hd : deepB E 26 = true := deepB_code h26 rfl
  simp only [Aa, Ab, Ac, Ad, Ae, Af, Ag, Ah, Ai, Aj, Ak, Al, Am, Ao, Ap, Aq, Ar, Au, Av, Aw, Ay, Az, Ba, Bb, Bc, Bd, Be, Bf, Bg, Bh, Bi, Bj, Bk, Bl, Bm, Bn, Bo, Bp, Bq, Br, Bs, Bt, Bv, Bw, Bx, Bz, Ca, Cb, Cc, Cd, Ce, Cf, Cg, Ch, Ci, Cj, Ck, Cl, Cm, Cn, Co, Cp, Cq, Cr, Cs, Ct, Cu, Cv, Cw, Cy, Cz, Da, Db, Dc, De, Df, Dg, Dh, Di, Dj, Dk, Dl, Dm, Dn, Option.map_some, Dp, Dq, Dr, Dt, Du, Dv, Dw, Dx, Dy, Dz, Ea, Eb, Ec, Ed, Ee, Ef, Eg, Eh, Ei, Ej, Ek, El, Em, Eo, Ep, Er, Es, Et, Eu, Ev, Ew, Ey, Ez, Fa, Fb, Fc, Fe, Ff, Fg, Fh, Fj, Fl, Fm, Fp, Fq, Fs, Ft, Fu, Fv, Fw, Fx, Fy, Fz, Ga, Gb, Gc, Gd, Ge, Gf, Gg, Gh, Gi, Gj, Nat.reduceEqDiff, Nat.reduceAdd, Nat.reduceMul, Nat.reduceLT, Nat.reduceLeDiff, ↓reduceIte, Ml, Mm, Nat.reduceBEq, Mn, Mo, Mp, Mq, reduceCtorEq, Mr, Ms, Gk, Gl, Gm, Gn, Gp, Gq, Gr, Gs, Gt, Gu, Gv, Gw, Gx, Gy, Gz, Ha, Hb, Hc, Hd, He, Hf, Hg, Hh, Hj, Hk, Hl, Hm, Hn, Ho, Hq, Hr, Hs, Ht, Hu, Hv, Hw, Hy, Hz, Ia, Ib, Ic, Ie, Ig, Ih, Ii, Ij, Ik, Il, Im, Io, Ip, Iq, Ir, Iu, Iv, Iw, Iy, Iz, Ja, Jb, Jc, Jd, Je, Jf, Jg, Jh, Ji, Jj, Jk, Jl, Jm, Jn, Jo, Jp, Jq, Jr, Js, Jt, Ju, Jv, Jw, Jy, Jz, Ka, Kb, Kc, Ke, Kf, Kg, Kh, Ki, Kj, Kk, Kl, Km, Kn, Ko, Kq, Kr, Ks, Kt, Ku, Kv, Kw, Kx, Ky, Kz, La, Lb, Lc, Ld, Le, Lf, Lg, Lh, Li, Lj, Ll, Lm, Ln, Lp, and_self, true_and, and_true, Mt, Mu, Mv, Mw, Mx, My, Mz, Na, Nb, Nc, Nd, Nf, Ng, Nh, Int.reduceToNat, Int.reduceLT, Int.reduceEq, Int.reduceLE, List.getElem?_cons_zero, List.getElem?_cons_succ, Lr, Ls, Lt, Ni, Nj, Nk, Nl, gt_iff_lt, ge_iff_le, Lu, Lv, Lw, Lx, Ly, Ma, Nn, Np, Mb, Mc, Md, Me, Mf, Mg, Mh, Mi, Mj, Mk, Nq, Nr, rd13_0, d13_0]
  rw [loop13 h26 _ _ rfl 12 0 q (by decide) (by decide)]
  simp only [Aa, Ab, Ac, Ad, Ae, Af, Ag, Ah, Ai, Aj, Ak, Al, Am, Ao, Ap, Aq, Ar, Au, Av, Aw, Ay, Az, Ba, Bb, Bc, Bd, Be, Bf, Bg, Bh, Bi, Bj, Bk, Bl, Bm, Bn, Bo, Bp, Bq, Br, Bs, Bt, Bv, Bw, Bx, Bz, Ca, Cb, Cc, Cd, Ce, Cf, Cg, Ch, Ci, Cj, Ck, Cl, Cm, Cn, Co, Cp, Cq, Cr, Cs, Ct, Cu, Cv, Cw, Cy, Cz, Da, Db, Dc, De, Df, Dg, Dh, Di, Dj, Dk, Dl, Dm, Dn, Option.map_some, Dp, Dq, Dr, Dt, Du, Dv, Dw, Dx, Dy, Dz, Ea, Eb, Ec, Ed, Ee, Ef, Eg, Eh, Ei, Ej, Ek, El, Em, Eo, Ep, Er, Es, Et, Eu, Ev, Ew, Ey, Ez, Fa, Fb, Fc, Fe, Ff, Fg, Fh, Fj, Fl, Fm, Fp, Fq, Fs, Ft, Fu, Fv, Fw, Fx, Fy, Fz, Ga, Gb, Gc, Gd, Ge, Gf, Gg, Gh, Gi, Gj, Nat.reduceEqDiff, Nat.reduceAdd, Nat.reduceMul, Nat.reduceLT, Nat.reduceLeDiff, ↓reduceIte, Ml, Mm, Nat.reduceBEq, Mn, Mo, Mp, Mq, reduceCtorEq, Mr, Ms, Gk, Gl, Gm, Gn, Gp, Gq, Gr, Gs, Gt, Gu, Gv, Gw, Gx, Gy, Gz, Ha, Hb, Hc, Hd, He, Hf, Hg, Hh, Hj, Hk, Hl, Hm, Hn, Ho, Hq, Hr, Hs, Ht, Hu, Hv, Hw, Hy, Hz, Ia, Ib, Ic, Ie, Ig, Ih, Ii, Ij, Ik, Il, Im, Io, Ip, Iq, Ir, Iu, Iv, Iw, Iy, Iz, Ja, Jb, Jc, Jd, Je, Jf, Jg, Jh, Ji, Jj, Jk, Jl, Jm, Jn, Jo, Jp, Jq, Jr, Js, Jt, Ju, Jv, Jw, Jy, Jz, Ka, Kb, Kc, Ke, Kf, Kg, Kh, Ki, Kj, Kk, Kl, Km, Kn, Ko, Kq, Kr, Ks, Kt, Ku, Kv, Kw, Kx, Ky, Kz, La, Lb, Lc, Ld, Le, Lf, Lg, Lh, Li, Lj, Ll, Lm, Ln, Lp, and_self, true_and, and_true, Mt, Mu, Mv, Mw, Mx, My, Mz, Na, Nb, Nc, Nd, Nf, Ng, Nh, Int.reduceToNat, Int.reduceLT, Int.reduceEq, Int.reduceLE, List.getElem?_cons_zero, List.getElem?_cons_succ, Lr, Ls, Lt, Ni, Nj, Nk, Nl, gt_iff_lt, ge_iff_le, Lu, Lv, Lw, Lx, Ly, Ma, Nn, Np, Mb, Mc, Md, Me, Mf, Mg, Mh, Mi, Mj, Mk, Nq, Nr, perm]

theorem d_perm13 {E : Env} (h26 : E 26 = some (.code c26)) (h13 : E 13 = some (.code c13)) (a b c d : Int) (hp : Hp) : deepE E (Call E) 13 [.agg [.int .u32 a, .int .u32 b, .int .u32 c, .int .u32 d]] hp = some (perm ⟨a, b, c, d⟩).s := d_permute13 h26 h13 ⟨a, b, c, d⟩ hp
theorem loop12 {E : Env} (h26 : E 26 = some (.code c26)) (h13 : E 13 = some (.code c13)) (f p : Bool) (l : List Int) (hl : l.length ≤ 140737488351232) (b4 : Blk) : ∀ (n k : Nat) (q : Q), l.length ≤ k + n →
    blockR 0 [4, 5] (loopR E [1, 4, 5, 6] l12_0 ⟨[(1, .list f p (u32s l)), (4, .loc 4 0), (5, .loc 5 0), (6, .int .i64 k)], [(4, b4), (5, .rows false 4 [q.s])], []⟩) =
      some (.norm, ⟨[(4, .loc 4 0), (5, .loc 5 0)], [(4, b4), (5, .rows false 4 [(wloop (l.drop k) q).s])], []⟩) := by
  intro n
  induction n with
  | zero =>
    intro k q hk
    have h1 : ¬ (k : Int) < (l.length : Int) := by omega
    rw [loopR]
    conv => lhs; arg 3; arg 1; rw [l12_0]
    simp only [Aa, Ab, Ac, Ad, Ae, Af, Ag, Ah, Ai, Aj, Ak, Al, Am, Ao, Ap, Aq, Ar, Au, Av, Aw, Ay, Az, Ba, Bb, Bc, Bd, Be, Bf, Bg, Bh, Bi, Bj, Bk, Bl, Bm, Bn, Bo, Bp, Bq, Br, Bs, Bt, Bv, Bw, Bx, Bz, Ca, Cb, Cc, Cd, Ce, Cf, Cg, Ch, Ci, Cj, Ck, Cl, Cm, Cn, Co, Cp, Cq, Cr, Cs, Ct, Cu, Cv, Cw, Cy, Cz, Da, Db, Dc, De, Df, Dg, Dh, Di, Dj, Dk, Dl, Dm, Dn, Option.map_some, Dp, Dq, Dr, Dt, Du, Dv, Dw, Dx, Dy, Dz, Ea, Eb, Ec, Ed, Ee, Ef, Eg, Eh, Ei, Ej, Ek, El, Em, Eo, Ep, Er, Es, Et, Eu, Ev, Ew, Ey, Ez, Fa, Fb, Fc, Fe, Ff, Fg, Fh, Fj, Fl, Fm, Fp, Fq, Fs, Ft, Fu, Fv, Fw, Fx, Fy, Fz, Ga, Gb, Gc, Gd, Ge, Gf, Gg, Gh, Gi, Gj, Nat.reduceEqDiff, Nat.reduceAdd, Nat.reduceMul, Nat.reduceLT, Nat.reduceLeDiff, ↓reduceIte, Ml, Mm, Nat.reduceBEq, Mn, Mo, Mp, Mq, reduceCtorEq, Mr, Ms, Gk, Gl, Gm, Gn, Gp, Gq, Gr, Gs, Gt, Gu, Gv, Gw, Gx, Gy, Gz, Ha, Hb, Hc, Hd, He, Hf, Hg, Hh, Hj, Hk, Hl, Hm, Hn, Ho, Hq, Hr, Hs, Ht, Hu, Hv, Hw, Hy, Hz, Ia, Ib, Ic, Ie, Ig, Ih, Ii, Ij, Ik, Il, Im, Io, Ip, Iq, Ir, Iu, Iv, Iw, Iy, Iz, Ja, Jb, Jc, Jd, Je, Jf, Jg, Jh, Ji, Jj, Jk, Jl, Jm, Jn, Jo, Jp, Jq, Jr, Js, Jt, Ju, Jv, Jw, Jy, Jz, Ka, Kb, Kc, Ke, Kf, Kg, Kh, Ki, Kj, Kk, Kl, Km, Kn, Ko, Kq, Kr, Ks, Kt, Ku, Kv, Kw, Kx, Ky, Kz, La, Lb, Lc, Ld, Le, Lf, Lg, Lh, Li, Lj, Ll, Lm, Ln, Lp, and_self, true_and, and_true, Mt, Mu, Mv, Mw, Mx, My, Mz, Na, Nb, Nc, Nd, Nf, Ng, Nh, Int.reduceToNat, Int.reduceLT, Int.reduceEq, Int.reduceLE, List.getElem?_cons_zero, List.getElem?_cons_succ, Lr, Ls, Lt, Ni, Nj, Nk, Nl, gt_iff_lt, ge_iff_le, Lu, Lv, Lw, Lx, Ly, Ma, Nn, Np, Mb, Mc, Md, Me, Mf, Mg, Mh, Mi, Mj, Mk, Nq, Nr, u32s_len, h1, decide_false]
    rw [List.drop_eq_nil_of_le (by omega)]
    rfl
  | succ n ih =>
    intro k q hk
    by_cases h : k < l.length
    · have h1 : (k : Int) < (l.length : Int) := by omega
      have hx := u32s_get (List.getElem?_eq_getElem h)
      have hw1 : IntKind.i64.wrap ((k : Int) + 1) = ((k + 1 : Nat) : Int) := wrap_i64 (by omega) (by omega)
      have hw2 : IntKind.i64.wrap ((k : Int) + 2) = ((k + 2 : Nat) : Int) := wrap_i64 (by omega) (by omega)
      rw [loopR]
      conv => lhs; arg 3; arg 1; rw [l12_0]
      by_cases h' : k + 1 < l.length
      · have h2 : ((k + 1 : Nat) : Int) < (l.length : Int) := by omega
        have hy := u32s_get (List.getElem?_eq_getElem h')
        have ih' := ih (k + 2) (take2 l[k] l[k + 1] q) (by omega)
        rw [List.drop_eq_getElem_cons h, List.drop_eq_getElem_cons h', wloop]
        simp only [Aa, Ab, Ac, Ad, Ae, Af, Ag, Ah, Ai, Aj, Ak, Al, Am, Ao, Ap, Aq, Ar, Au, Av, Aw, Ay, Az, Ba, Bb, Bc, Bd, Be, Bf, Bg, Bh, Bi, Bj, Bk, Bl, Bm, Bn, Bo, Bp, Bq, Br, Bs, Bt, Bv, Bw, Bx, Bz, Ca, Cb, Cc, Cd, Ce, Cf, Cg, Ch, Ci, Cj, Ck, Cl, Cm, Cn, Co, Cp, Cq, Cr, Cs, Ct, Cu, Cv, Cw, Cy, Cz, Da, Db, Dc, De, Df, Dg, Dh, Di, Dj, Dk, Dl, Dm, Dn, Option.map_some, Dp, Dq, Dr, Dt, Du, Dv, Dw, Dx, Dy, Dz, Ea, Eb, Ec, Ed, Ee, Ef, Eg, Eh, Ei, Ej, Ek, El, Em, Eo, Ep, Er, Es, Et, Eu, Ev, Ew, Ey, Ez, Fa, Fb, Fc, Fe, Ff, Fg, Fh, Fj, Fl, Fm, Fp, Fq, Fs, Ft, Fu, Fv, Fw, Fx, Fy, Fz, Ga, Gb, Gc, Gd, Ge, Gf, Gg, Gh, Gi, Gj, Nat.reduceEqDiff, Nat.reduceAdd, Nat.reduceMul, Nat.reduceLT, Nat.reduceLeDiff, ↓reduceIte, Ml, Mm, Nat.reduceBEq, Mn, Mo, Mp, Mq, reduceCtorEq, Mr, Ms, Gk, Gl, Gm, Gn, Gp, Gq, Gr, Gs, Gt, Gu, Gv, Gw, Gx, Gy, Gz, Ha, Hb, Hc, Hd, He, Hf, Hg, Hh, Hj, Hk, Hl, Hm, Hn, Ho, Hq, Hr, Hs, Ht, Hu, Hv, Hw, Hy, Hz, Ia, Ib, Ic, Ie, Ig, Ih, Ii, Ij, Ik, Il, Im, Io, Ip, Iq, Ir, Iu, Iv, Iw, Iy, Iz, Ja, Jb, Jc, Jd, Je, Jf, Jg, Jh, Ji, Jj, Jk, Jl, Jm, Jn, Jo, Jp, Jq, Jr, Js, Jt, Ju, Jv, Jw, Jy, Jz, Ka, Kb, Kc, Ke, Kf, Kg, Kh, Ki, Kj, Kk, Kl, Km, Kn, Ko, Kq, Kr, Ks, Kt, Ku, Kv, Kw, Kx, Ky, Kz, La, Lb, Lc, Ld, Le, Lf, Lg, Lh, Li, Lj, Ll, Lm, Ln, Lp, and_self, true_and, and_true, Mt, Mu, Mv, Mw, Mx, My, Mz, Na, Nb, Nc, Nd, Nf, Ng, Nh, Int.reduceToNat, Int.reduceLT, Int.reduceEq, Int.reduceLE, List.getElem?_cons_zero, List.getElem?_cons_succ, Lr, Ls, Lt, Ni, Nj, Nk, Nl, gt_iff_lt, ge_iff_le, Lu, Lv, Lw, Lx, Ly, Ma, Nn, Np, Mb, Mc, Md, Me, Mf, Mg, Mh, Mi, Mj, Mk, Nq, Nr, u32s_len, h1, h2, decide_true, hx, hy, hw1, hw2, Q.s, op_call_deep _ _ h13 rfl, d_perm13 h26 h13]
        exact ih'
      · have h2 : ¬ ((k + 1 : Nat) : Int) < (l.length : Int) := by omega
        have ih' := ih (k + 2) (take2 l[k] 0 q) (by omega)
        rw [List.drop_eq_nil_of_le (by omega), wloop] at ih'
        rw [List.drop_eq_getElem_cons h, List.drop_eq_nil_of_le (by omega), wloop]
        simp only [Aa, Ab, Ac, Ad, Ae, Af, Ag, Ah, Ai, Aj, Ak, Al, Am, Ao, Ap, Aq, Ar, Au, Av, Aw, Ay, Az, Ba, Bb, Bc, Bd, Be, Bf, Bg, Bh, Bi, Bj, Bk, Bl, Bm, Bn, Bo, Bp, Bq, Br, Bs, Bt, Bv, Bw, Bx, Bz, Ca, Cb, Cc, Cd, Ce, Cf, Cg, Ch, Ci, Cj, Ck, Cl, Cm, Cn, Co, Cp, Cq, Cr, Cs, Ct, Cu, Cv, Cw, Cy, Cz, Da, Db, Dc, De, Df, Dg, Dh, Di, Dj, Dk, Dl, Dm, Dn, Option.map_some, Dp, Dq, Dr, Dt, Du, Dv, Dw, Dx, Dy, Dz, Ea, Eb, Ec, Ed, Ee, Ef, Eg, Eh, Ei, Ej, Ek, El, Em, Eo, Ep, Er, Es, Et, Eu, Ev, Ew, Ey, Ez, Fa, Fb, Fc, Fe, Ff, Fg, Fh, Fj, Fl, Fm, Fp, Fq, Fs, Ft, Fu, Fv, Fw, Fx, Fy, Fz, Ga, Gb, Gc, Gd, Ge, Gf, Gg, Gh, Gi, Gj, Nat.reduceEqDiff, Nat.reduceAdd, Nat.reduceMul, Nat.reduceLT, Nat.reduceLeDiff, ↓reduceIte, Ml, Mm, Nat.reduceBEq, Mn, Mo, Mp, Mq, reduceCtorEq, Mr, Ms, Gk, Gl, Gm, Gn, Gp, Gq, Gr, Gs, Gt, Gu, Gv, Gw, Gx, Gy, Gz, Ha, Hb, Hc, Hd, He, Hf, Hg, Hh, Hj, Hk, Hl, Hm, Hn, Ho, Hq, Hr, Hs, Ht, Hu, Hv, Hw, Hy, Hz, Ia, Ib, Ic, Ie, Ig, Ih, Ii, Ij, Ik, Il, Im, Io, Ip, Iq, Ir, Iu, Iv, Iw, Iy, Iz, Ja, Jb, Jc, Jd, Je, Jf, Jg, Jh, Ji, Jj, Jk, Jl, Jm, Jn, Jo, Jp, Jq, Jr, Js, Jt, Ju, Jv, Jw, Jy, Jz, Ka, Kb, Kc, Ke, Kf, Kg, Kh, Ki, Kj, Kk, Kl, Km, Kn, Ko, Kq, Kr, Ks, Kt, Ku, Kv, Kw, Kx, Ky, Kz, La, Lb, Lc, Ld, Le, Lf, Lg, Lh, Li, Lj, Ll, Lm, Ln, Lp, and_self, true_and, and_true, Mt, Mu, Mv, Mw, Mx, My, Mz, Na, Nb, Nc, Nd, Nf, Ng, Nh, Int.reduceToNat, Int.reduceLT, Int.reduceEq, Int.reduceLE, List.getElem?_cons_zero, List.getElem?_cons_succ, Lr, Ls, Lt, Ni, Nj, Nk, Nl, gt_iff_lt, ge_iff_le, Lu, Lv, Lw, Lx, Ly, Ma, Nn, Np, Mb, Mc, Md, Me, Mf, Mg, Mh, Mi, Mj, Mk, Nq, Nr, u32s_len, h1, h2, decide_true, decide_false, hx, hw1, hw2, Q.s, op_call_deep _ _ h13 rfl, d_perm13 h26 h13]
        exact ih'
    · have h1 : ¬ (k : Int) < (l.length : Int) := by omega
      rw [loopR]
      conv => lhs; arg 3; arg 1; rw [l12_0]
      simp only [Aa, Ab, Ac, Ad, Ae, Af, Ag, Ah, Ai, Aj, Ak, Al, Am, Ao, Ap, Aq, Ar, Au, Av, Aw, Ay, Az, Ba, Bb, Bc, Bd, Be, Bf, Bg, Bh, Bi, Bj, Bk, Bl, Bm, Bn, Bo, Bp, Bq, Br, Bs, Bt, Bv, Bw, Bx, Bz, Ca, Cb, Cc, Cd, Ce, Cf, Cg, Ch, Ci, Cj, Ck, Cl, Cm, Cn, Co, Cp, Cq, Cr, Cs, Ct, Cu, Cv, Cw, Cy, Cz, Da, Db, Dc, De, Df, Dg, Dh, Di, Dj, Dk, Dl, Dm, Dn, Option.map_some, Dp, Dq, Dr, Dt, Du, Dv, Dw, Dx, Dy, Dz, Ea, Eb, Ec, Ed, Ee, Ef, Eg, Eh, Ei, Ej, Ek, El, Em, Eo, Ep, Er, Es, Et, Eu, Ev, Ew, Ey, Ez, Fa, Fb, Fc, Fe, Ff, Fg, Fh, Fj, Fl, Fm, Fp, Fq, Fs, Ft, Fu, Fv, Fw, Fx, Fy, Fz, Ga, Gb, Gc, Gd, Ge, Gf, Gg, Gh, Gi, Gj, Nat.reduceEqDiff, Nat.reduceAdd, Nat.reduceMul, Nat.reduceLT, Nat.reduceLeDiff, ↓reduceIte, Ml, Mm, Nat.reduceBEq, Mn, Mo, Mp, Mq, reduceCtorEq, Mr, Ms, Gk, Gl, Gm, Gn, Gp, Gq, Gr, Gs, Gt, Gu, Gv, Gw, Gx, Gy, Gz, Ha, Hb, Hc, Hd, He, Hf, Hg, Hh, Hj, Hk, Hl, Hm, Hn, Ho, Hq, Hr, Hs, Ht, Hu, Hv, Hw, Hy, Hz, Ia, Ib, Ic, Ie, Ig, Ih, Ii, Ij, Ik, Il, Im, Io, Ip, Iq, Ir, Iu, Iv, Iw, Iy, Iz, Ja, Jb, Jc, Jd, Je, Jf, Jg, Jh, Ji, Jj, Jk, Jl, Jm, Jn, Jo, Jp, Jq, Jr, Js, Jt, Ju, Jv, Jw, Jy, Jz, Ka, Kb, Kc, Ke, Kf, Kg, Kh, Ki, Kj, Kk, Kl, Km, Kn, Ko, Kq, Kr, Ks, Kt, Ku, Kv, Kw, Kx, Ky, Kz, La, Lb, Lc, Ld, Le, Lf, Lg, Lh, Li, Lj, Ll, Lm, Ln, Lp, and_self, true_and, and_true, Mt, Mu, Mv, Mw, Mx, My, Mz, Na, Nb, Nc, Nd, Nf, Ng, Nh, Int.reduceToNat, Int.reduceLT, Int.reduceEq, Int.reduceLE, List.getElem?_cons_zero, List.getElem?_cons_succ, Lr, Ls, Lt, Ni, Nj, Nk, Nl, gt_iff_lt, ge_iff_le, Lu, Lv, Lw, Lx, Ly, Ma, Nn, Np, Mb, Mc, Md, Me, Mf, Mg, Mh, Mi, Mj, Mk, Nq, Nr, u32s_len, h1, decide_false]
      rw [List.drop_eq_nil_of_le (by omega)]
      rfl

theorem d_words12 {E : Env} (h26 : E 26 = some (.code c26)) (h13 : E 13 = some (.code c13)) (h12 : E 12 = some (.code c12)) (t : Int) (f p : Bool) (l : List Int) (hl : l.length ≤ 140737488351232) (hp : Hp) :
    deepE E (Call E) 12 [.int .u32 t, .list f p (u32s l)] hp = some (words t l).s := by
  rw [deep_code h12 rfl, deep_go]
  simp only [mapO_nil, mapO_cons, consO_some, snapA_int, snapA_list, goD_some]
  rw [Call_mk E h12 _ _ rfl]
  simp only [Aa, Ab, Ac, Ad, Ae, Af, Ag, Ah, Ai, Aj, Ak, Al, Am, Ao, Ap, Aq, Ar, Au, Av, Aw, Ay, Az, Ba, Bb, Bc, Bd, Be, Bf, Bg, Bh, Bi, Bj, Bk, Bl, Bm, Bn, Bo, Bp, Bq, Br, Bs, Bt, Bv, Bw, Bx, Bz, Ca, Cb, Cc, Cd, Ce, Cf, Cg, Ch, Ci, Cj, Ck, Cl, Cm, Cn, Co, Cp, Cq, Cr, Cs, Ct, Cu, Cv, Cw, Cy, Cz, Da, Db, Dc, De, Df, Dg, Dh, Di, Dj, Dk, Dl, Dm, Dn, Option.map_some, Dp, Dq, Dr, Dt, Du, Dv, Dw, Dx, Dy, Dz, Ea, Eb, Ec, Ed, Ee, Ef, Eg, Eh, Ei, Ej, Ek, El, Em, Eo, Ep, Er, Es, Et, Eu, Ev, Ew, Ey, Ez, Fa, Fb, Fc, Fe, Ff, Fg, Fh, Fj, Fl, Fm, Fp, Fq, Fs, Ft, Fu, Fv, Fw, Fx, Fy, Fz, Ga, Gb, Gc, Gd, Ge, Gf, Gg, Gh, Gi, Gj, Nat.reduceEqDiff, Nat.reduceAdd, Nat.reduceMul, Nat.reduceLT, Nat.reduceLeDiff, ↓reduceIte, Ml, Mm, Nat.reduceBEq, Mn, Mo, Mp, Mq, reduceCtorEq, Mr, Ms, Gk, Gl, Gm, Gn, Gp, Gq, Gr, Gs, Gt, Gu, Gv, Gw, Gx, Gy, Gz, Ha, Hb, Hc, Hd, He, Hf, Hg, Hh, Hj, Hk, Hl, Hm, Hn, Ho, Hq, Hr, Hs, Ht, Hu, Hv, Hw, Hy, Hz, Ia, Ib, Ic, Ie, Ig, Ih, Ii, Ij, Ik, Il, Im, Io, Ip, Iq, Ir, Iu, Iv, Iw, Iy, Iz, Ja, Jb, Jc, Jd, Je, Jf, Jg, Jh, Ji, Jj, Jk, Jl, Jm, Jn, Jo, Jp, Jq, Jr, Js, Jt, Ju, Jv, Jw, Jy, Jz, Ka, Kb, Kc, Ke, Kf, Kg, Kh, Ki, Kj, Kk, Kl, Km, Kn, Ko, Kq, Kr, Ks, Kt, Ku, Kv, Kw, Kx, Ky, Kz, La, Lb, Lc, Ld, Le, Lf, Lg, Lh, Li, Lj, Ll, Lm, Ln, Lp, and_self, true_and, and_true, Mt, Mu, Mv, Mw, Mx, My, Mz, Na, Nb, Nc, Nd, Nf, Ng, Nh, Int.reduceToNat, Int.reduceLT, Int.reduceEq, Int.reduceLE, List.getElem?_cons_zero, List.getElem?_cons_succ, Lr, Ls, Lt, Ni, Nj, Nk, Nl, gt_iff_lt, ge_iff_le, Lu, Lv, Lw, Lx, Ly, Ma, Nn, Np, Mb, Mc, Md, Me, Mf, Mg, Mh, Mi, Mj, Mk, Nq, Nr, u32s_len]
  have hloop := loop12 h26 h13 f p l hl (.rows false 4 [.agg [.int .u32 0, .int .u32 0, .int .u32 0, .int .u32 0]]) l.length 0 ⟨1702391089, 1651466610, t, w32 l.length⟩ (by omega)
  simp only [Q.s, w32, Int.cast_ofNat_Int] at hloop
  rw [hloop]
  simp only [Aa, Ab, Ac, Ad, Ae, Af, Ag, Ah, Ai, Aj, Ak, Al, Am, Ao, Ap, Aq, Ar, Au, Av, Aw, Ay, Az, Ba, Bb, Bc, Bd, Be, Bf, Bg, Bh, Bi, Bj, Bk, Bl, Bm, Bn, Bo, Bp, Bq, Br, Bs, Bt, Bv, Bw, Bx, Bz, Ca, Cb, Cc, Cd, Ce, Cf, Cg, Ch, Ci, Cj, Ck, Cl, Cm, Cn, Co, Cp, Cq, Cr, Cs, Ct, Cu, Cv, Cw, Cy, Cz, Da, Db, Dc, De, Df, Dg, Dh, Di, Dj, Dk, Dl, Dm, Dn, Option.map_some, Dp, Dq, Dr, Dt, Du, Dv, Dw, Dx, Dy, Dz, Ea, Eb, Ec, Ed, Ee, Ef, Eg, Eh, Ei, Ej, Ek, El, Em, Eo, Ep, Er, Es, Et, Eu, Ev, Ew, Ey, Ez, Fa, Fb, Fc, Fe, Ff, Fg, Fh, Fj, Fl, Fm, Fp, Fq, Fs, Ft, Fu, Fv, Fw, Fx, Fy, Fz, Ga, Gb, Gc, Gd, Ge, Gf, Gg, Gh, Gi, Gj, Nat.reduceEqDiff, Nat.reduceAdd, Nat.reduceMul, Nat.reduceLT, Nat.reduceLeDiff, ↓reduceIte, Ml, Mm, Nat.reduceBEq, Mn, Mo, Mp, Mq, reduceCtorEq, Mr, Ms, Gk, Gl, Gm, Gn, Gp, Gq, Gr, Gs, Gt, Gu, Gv, Gw, Gx, Gy, Gz, Ha, Hb, Hc, Hd, He, Hf, Hg, Hh, Hj, Hk, Hl, Hm, Hn, Ho, Hq, Hr, Hs, Ht, Hu, Hv, Hw, Hy, Hz, Ia, Ib, Ic, Ie, Ig, Ih, Ii, Ij, Ik, Il, Im, Io, Ip, Iq, Ir, Iu, Iv, Iw, Iy, Iz, Ja, Jb, Jc, Jd, Je, Jf, Jg, Jh, Ji, Jj, Jk, Jl, Jm, Jn, Jo, Jp, Jq, Jr, Js, Jt, Ju, Jv, Jw, Jy, Jz, Ka, Kb, Kc, Ke, Kf, Kg, Kh, Ki, Kj, Kk, Kl, Km, Kn, Ko, Kq, Kr, Ks, Kt, Ku, Kv, Kw, Kx, Ky, Kz, La, Lb, Lc, Ld, Le, Lf, Lg, Lh, Li, Lj, Ll, Lm, Ln, Lp, and_self, true_and, and_true, Mt, Mu, Mv, Mw, Mx, My, Mz, Na, Nb, Nc, Nd, Nf, Ng, Nh, Int.reduceToNat, Int.reduceLT, Int.reduceEq, Int.reduceLE, List.getElem?_cons_zero, List.getElem?_cons_succ, Lr, Ls, Lt, Ni, Nj, Nk, Nl, gt_iff_lt, ge_iff_le, Lu, Lv, Lw, Lx, Ly, Ma, Nn, Np, Mb, Mc, Md, Me, Mf, Mg, Mh, Mi, Mj, Mk, Nq, Nr, op_call_deep _ _ h13 rfl, d_perm13 h26 h13, List.drop_zero, Q.s, words, w32, x32]

end Go.Proofs.Ytkafliflpplpeaa.Sim
namespace Go.Proofs.Ytkafliflpplpeaa.Sim
set_option linter.unusedSimpArgs false
set_option linter.unusedVariables false
open Go
set_option maxRecDepth 100000
set_option linter.unusedSimpArgs false

theorem loop16 {E : Env} (t : Int) (f p : Bool) (l : List Int) (hl : l.length ≤ 1000) (b4 : Blk) : ∀ (n k : Nat) (acc : List Int), l.length ≤ k + n → acc.length ≤ 2 * k → k ≤ l.length →
    blockR 0 [0, 4, 5] (loopR E [0, 1, 4, 5, 6] l16_0 ⟨[(0, .int .u32 t), (1, .list f p (i64s l)), (4, .loc 4 0), (5, growS [] (u32s acc)), (6, .int .i64 k)], [(4, b4)], growH [] 1 (u32s acc)⟩) =
      some (.norm, ⟨[(0, .int .u32 t), (4, .loc 4 0), (5, growS [] (u32s (acc ++ (l.drop k).flatMap numW)))], [(4, b4)], growH [] 1 (u32s (acc ++ (l.drop k).flatMap numW))⟩) := by
  intro n
  induction n with
  | zero =>
    intro k acc hk ha hkl
    have h1 : ¬ (k : Int) < (l.length : Int) := by omega
    rw [loopR]
    conv => lhs; arg 3; arg 1; rw [l16_0]
    simp only [Aa, Ab, Ac, Ad, Ae, Af, Ag, Ah, Ai, Aj, Ak, Al, Am, Ao, Ap, Aq, Ar, Au, Av, Aw, Ay, Az, Ba, Bb, Bc, Bd, Be, Bf, Bg, Bh, Bi, Bj, Bk, Bl, Bm, Bn, Bo, Bp, Bq, Br, Bs, Bt, Bv, Bw, Bx, Bz, Ca, Cb, Cc, Cd, Ce, Cf, Cg, Ch, Ci, Cj, Ck, Cl, Cm, Cn, Co, Cp, Cq, Cr, Cs, Ct, Cu, Cv, Cw, Cy, Cz, Da, Db, Dc, De, Df, Dg, Dh, Di, Dj, Dk, Dl, Dm, Dn, Option.map_some, Dp, Dq, Dr, Dt, Du, Dv, Dw, Dx, Dy, Dz, Ea, Eb, Ec, Ed, Ee, Ef, Eg, Eh, Ei, Ej, Ek, El, Em, Eo, Ep, Er, Es, Et, Eu, Ev, Ew, Ey, Ez, Fa, Fb, Fc, Fe, Ff, Fg, Fh, Fj, Fl, Fm, Fp, Fq, Fs, Ft, Fu, Fv, Fw, Fx, Fy, Fz, Ga, Gb, Gc, Gd, Ge, Gf, Gg, Gh, Gi, Gj, Nat.reduceEqDiff, Nat.reduceAdd, Nat.reduceMul, Nat.reduceLT, Nat.reduceLeDiff, ↓reduceIte, Ml, Mm, Nat.reduceBEq, Mn, Mo, Mp, Mq, reduceCtorEq, Mr, Ms, Gk, Gl, Gm, Gn, Gp, Gq, Gr, Gs, Gt, Gu, Gv, Gw, Gx, Gy, Gz, Ha, Hb, Hc, Hd, He, Hf, Hg, Hh, Hj, Hk, Hl, Hm, Hn, Ho, Hq, Hr, Hs, Ht, Hu, Hv, Hw, Hy, Hz, Ia, Ib, Ic, Ie, Ig, Ih, Ii, Ij, Ik, Il, Im, Io, Ip, Iq, Ir, Iu, Iv, Iw, Iy, Iz, Ja, Jb, Jc, Jd, Je, Jf, Jg, Jh, Ji, Jj, Jk, Jl, Jm, Jn, Jo, Jp, Jq, Jr, Js, Jt, Ju, Jv, Jw, Jy, Jz, Ka, Kb, Kc, Ke, Kf, Kg, Kh, Ki, Kj, Kk, Kl, Km, Kn, Ko, Kq, Kr, Ks, Kt, Ku, Kv, Kw, Kx, Ky, Kz, La, Lb, Lc, Ld, Le, Lf, Lg, Lh, Li, Lj, Ll, Lm, Ln, Lp, and_self, true_and, and_true, Mt, Mu, Mv, Mw, Mx, My, Mz, Na, Nb, Nc, Nd, Nf, Ng, Nh, Int.reduceToNat, Int.reduceLT, Int.reduceEq, Int.reduceLE, List.getElem?_cons_zero, List.getElem?_cons_succ, Lr, Ls, Lt, Ni, Nj, Nk, Nl, gt_iff_lt, ge_iff_le, Lu, Lv, Lw, Lx, Ly, Ma, Nn, Np, Mb, Mc, Md, Me, Mf, Mg, Mh, Mi, Mj, Mk, Nq, Nr, keep1_grow, i64s_len, h1, decide_false]
    rw [List.drop_eq_nil_of_le (by omega)]
    simp only [List.flatMap_nil, List.append_nil]
  | succ n ih =>
    intro k acc hk ha hkl
    by_cases h : k < l.length
    · have h1 : (k : Int) < (l.length : Int) := by omega
      have hx := i64s_get (List.getElem?_eq_getElem h)
      have hw1 : IntKind.i64.wrap ((k : Int) + 1) = ((k + 1 : Nat) : Int) := wrap_i64 (by omega) (by omega)
      have ih' := ih (k + 1) (acc ++ numW l[k]) (by omega) (by simp [numW]; omega) (by omega)
      have hap := fun (d : Nat) (os : List KO) (fr : Fr) (vars : Vars) => app_grow (E := E) (C := Call E) (d := d) (os := os) (fr := fr) (vars := vars) (H := []) (esz := 1) (bytes := 4) (f := true) (p := true) (ys := u32s (numW l[k])) (u32s_esz acc) (u32s_esz _) (by simp [u32s, numW, okLen]; omega) (by simp [u32s, numW])
      rw [← u32s_app] at hap
      have hys : u32s (numW l[k]) = [.int .u32 (IntKind.u32.wrap (IntKind.u64.wrap l[k])), .int .u32 (IntKind.u32.wrap (ishr .u64 (IntKind.u64.wrap l[k]) 32))] := rfl
      rw [hys] at hap
      rw [loopR]
      conv => lhs; arg 3; arg 1; rw [l16_0]
      rw [List.drop_eq_getElem_cons h, List.flatMap_cons, ← List.append_assoc]
      simp only [Aa, Ab, Ac, Ad, Ae, Af, Ag, Ah, Ai, Aj, Ak, Al, Am, Ao, Ap, Aq, Ar, Au, Av, Aw, Ay, Az, Ba, Bb, Bc, Bd, Be, Bf, Bg, Bh, Bi, Bj, Bk, Bl, Bm, Bn, Bo, Bp, Bq, Br, Bs, Bt, Bv, Bw, Bx, Bz, Ca, Cb, Cc, Cd, Ce, Cf, Cg, Ch, Ci, Cj, Ck, Cl, Cm, Cn, Co, Cp, Cq, Cr, Cs, Ct, Cu, Cv, Cw, Cy, Cz, Da, Db, Dc, De, Df, Dg, Dh, Di, Dj, Dk, Dl, Dm, Dn, Option.map_some, Dp, Dq, Dr, Dt, Du, Dv, Dw, Dx, Dy, Dz, Ea, Eb, Ec, Ed, Ee, Ef, Eg, Eh, Ei, Ej, Ek, El, Em, Eo, Ep, Er, Es, Et, Eu, Ev, Ew, Ey, Ez, Fa, Fb, Fc, Fe, Ff, Fg, Fh, Fj, Fl, Fm, Fp, Fq, Fs, Ft, Fu, Fv, Fw, Fx, Fy, Fz, Ga, Gb, Gc, Gd, Ge, Gf, Gg, Gh, Gi, Gj, Nat.reduceEqDiff, Nat.reduceAdd, Nat.reduceMul, Nat.reduceLT, Nat.reduceLeDiff, ↓reduceIte, Ml, Mm, Nat.reduceBEq, Mn, Mo, Mp, Mq, reduceCtorEq, Mr, Ms, Gk, Gl, Gm, Gn, Gp, Gq, Gr, Gs, Gt, Gu, Gv, Gw, Gx, Gy, Gz, Ha, Hb, Hc, Hd, He, Hf, Hg, Hh, Hj, Hk, Hl, Hm, Hn, Ho, Hq, Hr, Hs, Ht, Hu, Hv, Hw, Hy, Hz, Ia, Ib, Ic, Ie, Ig, Ih, Ii, Ij, Ik, Il, Im, Io, Ip, Iq, Ir, Iu, Iv, Iw, Iy, Iz, Ja, Jb, Jc, Jd, Je, Jf, Jg, Jh, Ji, Jj, Jk, Jl, Jm, Jn, Jo, Jp, Jq, Jr, Js, Jt, Ju, Jv, Jw, Jy, Jz, Ka, Kb, Kc, Ke, Kf, Kg, Kh, Ki, Kj, Kk, Kl, Km, Kn, Ko, Kq, Kr, Ks, Kt, Ku, Kv, Kw, Kx, Ky, Kz, La, Lb, Lc, Ld, Le, Lf, Lg, Lh, Li, Lj, Ll, Lm, Ln, Lp, and_self, true_and, and_true, Mt, Mu, Mv, Mw, Mx, My, Mz, Na, Nb, Nc, Nd, Nf, Ng, Nh, Int.reduceToNat, Int.reduceLT, Int.reduceEq, Int.reduceLE, List.getElem?_cons_zero, List.getElem?_cons_succ, Lr, Ls, Lt, Ni, Nj, Nk, Nl, gt_iff_lt, ge_iff_le, Lu, Lv, Lw, Lx, Ly, Ma, Nn, Np, Mb, Mc, Md, Me, Mf, Mg, Mh, Mi, Mj, Mk, Nq, Nr, keep1_grow, i64s_len, h1, decide_true, hx, hw1, hap]
      exact ih'
    · have h1 : ¬ (k : Int) < (l.length : Int) := by omega
      rw [loopR]
      conv => lhs; arg 3; arg 1; rw [l16_0]
      simp only [Aa, Ab, Ac, Ad, Ae, Af, Ag, Ah, Ai, Aj, Ak, Al, Am, Ao, Ap, Aq, Ar, Au, Av, Aw, Ay, Az, Ba, Bb, Bc, Bd, Be, Bf, Bg, Bh, Bi, Bj, Bk, Bl, Bm, Bn, Bo, Bp, Bq, Br, Bs, Bt, Bv, Bw, Bx, Bz, Ca, Cb, Cc, Cd, Ce, Cf, Cg, Ch, Ci, Cj, Ck, Cl, Cm, Cn, Co, Cp, Cq, Cr, Cs, Ct, Cu, Cv, Cw, Cy, Cz, Da, Db, Dc, De, Df, Dg, Dh, Di, Dj, Dk, Dl, Dm, Dn, Option.map_some, Dp, Dq, Dr, Dt, Du, Dv, Dw, Dx, Dy, Dz, Ea, Eb, Ec, Ed, Ee, Ef, Eg, Eh, Ei, Ej, Ek, El, Em, Eo, Ep, Er, Es, Et, Eu, Ev, Ew, Ey, Ez, Fa, Fb, Fc, Fe, Ff, Fg, Fh, Fj, Fl, Fm, Fp, Fq, Fs, Ft, Fu, Fv, Fw, Fx, Fy, Fz, Ga, Gb, Gc, Gd, Ge, Gf, Gg, Gh, Gi, Gj, Nat.reduceEqDiff, Nat.reduceAdd, Nat.reduceMul, Nat.reduceLT, Nat.reduceLeDiff, ↓reduceIte, Ml, Mm, Nat.reduceBEq, Mn, Mo, Mp, Mq, reduceCtorEq, Mr, Ms, Gk, Gl, Gm, Gn, Gp, Gq, Gr, Gs, Gt, Gu, Gv, Gw, Gx, Gy, Gz, Ha, Hb, Hc, Hd, He, Hf, Hg, Hh, Hj, Hk, Hl, Hm, Hn, Ho, Hq, Hr, Hs, Ht, Hu, Hv, Hw, Hy, Hz, Ia, Ib, Ic, Ie, Ig, Ih, Ii, Ij, Ik, Il, Im, Io, Ip, Iq, Ir, Iu, Iv, Iw, Iy, Iz, Ja, Jb, Jc, Jd, Je, Jf, Jg, Jh, Ji, Jj, Jk, Jl, Jm, Jn, Jo, Jp, Jq, Jr, Js, Jt, Ju, Jv, Jw, Jy, Jz, Ka, Kb, Kc, Ke, Kf, Kg, Kh, Ki, Kj, Kk, Kl, Km, Kn, Ko, Kq, Kr, Ks, Kt, Ku, Kv, Kw, Kx, Ky, Kz, La, Lb, Lc, Ld, Le, Lf, Lg, Lh, Li, Lj, Ll, Lm, Ln, Lp, and_self, true_and, and_true, Mt, Mu, Mv, Mw, Mx, My, Mz, Na, Nb, Nc, Nd, Nf, Ng, Nh, Int.reduceToNat, Int.reduceLT, Int.reduceEq, Int.reduceLE, List.getElem?_cons_zero, List.getElem?_cons_succ, Lr, Ls, Lt, Ni, Nj, Nk, Nl, gt_iff_lt, ge_iff_le, Lu, Lv, Lw, Lx, Ly, Ma, Nn, Np, Mb, Mc, Md, Me, Mf, Mg, Mh, Mi, Mj, Mk, Nq, Nr, keep1_grow, i64s_len, h1, decide_false]
      rw [List.drop_eq_nil_of_le (by omega)]
      simp only [List.flatMap_nil, List.append_nil]


theorem d_numbers16 {E : Env} (h26 : E 26 = some (.code c26)) (h13 : E 13 = some (.code c13)) (h12 : E 12 = some (.code c12)) (h16 : E 16 = some (.code c16)) (t : Int) (f p : Bool) (l : List Int) (hl : l.length ≤ 1000) (hp : Hp) :
    deepE E (Call E) 16 [.int .u32 t, .list f p (i64s l)] hp = some (words t (l.flatMap numW)).s := by
  rw [deep_code h16 rfl, deep_go]
  simp only [mapO_nil, mapO_cons, consO_some, snapA_int, snapA_list, goD_some]
  rw [Call_mk E h16 _ _ rfl]
  simp only [Aa, Ab, Ac, Ad, Ae, Af, Ag, Ah, Ai, Aj, Ak, Al, Am, Ao, Ap, Aq, Ar, Au, Av, Aw, Ay, Az, Ba, Bb, Bc, Bd, Be, Bf, Bg, Bh, Bi, Bj, Bk, Bl, Bm, Bn, Bo, Bp, Bq, Br, Bs, Bt, Bv, Bw, Bx, Bz, Ca, Cb, Cc, Cd, Ce, Cf, Cg, Ch, Ci, Cj, Ck, Cl, Cm, Cn, Co, Cp, Cq, Cr, Cs, Ct, Cu, Cv, Cw, Cy, Cz, Da, Db, Dc, De, Df, Dg, Dh, Di, Dj, Dk, Dl, Dm, Dn, Option.map_some, Dp, Dq, Dr, Dt, Du, Dv, Dw, Dx, Dy, Dz, Ea, Eb, Ec, Ed, Ee, Ef, Eg, Eh, Ei, Ej, Ek, El, Em, Eo, Ep, Er, Es, Et, Eu, Ev, Ew, Ey, Ez, Fa, Fb, Fc, Fe, Ff, Fg, Fh, Fj, Fl, Fm, Fp, Fq, Fs, Ft, Fu, Fv, Fw, Fx, Fy, Fz, Ga, Gb, Gc, Gd, Ge, Gf, Gg, Gh, Gi, Gj, Nat.reduceEqDiff, Nat.reduceAdd, Nat.reduceMul, Nat.reduceLT, Nat.reduceLeDiff, ↓reduceIte, Ml, Mm, Nat.reduceBEq, Mn, Mo, Mp, Mq, reduceCtorEq, Mr, Ms, Gk, Gl, Gm, Gn, Gp, Gq, Gr, Gs, Gt, Gu, Gv, Gw, Gx, Gy, Gz, Ha, Hb, Hc, Hd, He, Hf, Hg, Hh, Hj, Hk, Hl, Hm, Hn, Ho, Hq, Hr, Hs, Ht, Hu, Hv, Hw, Hy, Hz, Ia, Ib, Ic, Ie, Ig, Ih, Ii, Ij, Ik, Il, Im, Io, Ip, Iq, Ir, Iu, Iv, Iw, Iy, Iz, Ja, Jb, Jc, Jd, Je, Jf, Jg, Jh, Ji, Jj, Jk, Jl, Jm, Jn, Jo, Jp, Jq, Jr, Js, Jt, Ju, Jv, Jw, Jy, Jz, Ka, Kb, Kc, Ke, Kf, Kg, Kh, Ki, Kj, Kk, Kl, Km, Kn, Ko, Kq, Kr, Ks, Kt, Ku, Kv, Kw, Kx, Ky, Kz, La, Lb, Lc, Ld, Le, Lf, Lg, Lh, Li, Lj, Ll, Lm, Ln, Lp, and_self, true_and, and_true, Mt, Mu, Mv, Mw, Mx, My, Mz, Na, Nb, Nc, Nd, Nf, Ng, Nh, Int.reduceToNat, Int.reduceLT, Int.reduceEq, Int.reduceLE, List.getElem?_cons_zero, List.getElem?_cons_succ, Lr, Ls, Lt, Ni, Nj, Nk, Nl, gt_iff_lt, ge_iff_le, Lu, Lv, Lw, Lx, Ly, Ma, Nn, Np, Mb, Mc, Md, Me, Mf, Mg, Mh, Mi, Mj, Mk, Nq, Nr, i64s_len]
  have hloop := loop16 (E := E) t f p l hl (.rows false 4 [.agg [.int .u32 0, .int .u32 0, .int .u32 0, .int .u32 0]]) l.length 0 [] (by omega) (by simp) (by omega)
  simp only [Int.cast_ofNat_Int, List.drop_zero, List.nil_append] at hloop
  rw [show growS [] (u32s []) = .list true true [] from rfl, show growH [] 1 (u32s []) = [] from rfl] at hloop
  rw [hloop]
  have hw := fun hp' => d_words12 h26 h13 h12 t (u32s (l.flatMap numW)).isEmpty (u32s (l.flatMap numW)).isEmpty (l.flatMap numW) (by rw [numW_len]; omega) hp'
  have hcall : deepE E (Call E) 12 [.int .u32 t, growS [] (u32s (l.flatMap numW))] (growH [] 1 (u32s (l.flatMap numW))) = some (words t (l.flatMap numW)).s := by
    rw [← hw [], deep_code h12 rfl, deep_code h12 rfl, deep_go, deep_go]
    simp only [mapO_nil, mapO_cons, consO_some, snapA_int, snapA_list, snapA_grow (u32s_atom _)]
  simp only [Aa, Ab, Ac, Ad, Ae, Af, Ag, Ah, Ai, Aj, Ak, Al, Am, Ao, Ap, Aq, Ar, Au, Av, Aw, Ay, Az, Ba, Bb, Bc, Bd, Be, Bf, Bg, Bh, Bi, Bj, Bk, Bl, Bm, Bn, Bo, Bp, Bq, Br, Bs, Bt, Bv, Bw, Bx, Bz, Ca, Cb, Cc, Cd, Ce, Cf, Cg, Ch, Ci, Cj, Ck, Cl, Cm, Cn, Co, Cp, Cq, Cr, Cs, Ct, Cu, Cv, Cw, Cy, Cz, Da, Db, Dc, De, Df, Dg, Dh, Di, Dj, Dk, Dl, Dm, Dn, Option.map_some, Dp, Dq, Dr, Dt, Du, Dv, Dw, Dx, Dy, Dz, Ea, Eb, Ec, Ed, Ee, Ef, Eg, Eh, Ei, Ej, Ek, El, Em, Eo, Ep, Er, Es, Et, Eu, Ev, Ew, Ey, Ez, Fa, Fb, Fc, Fe, Ff, Fg, Fh, Fj, Fl, Fm, Fp, Fq, Fs, Ft, Fu, Fv, Fw, Fx, Fy, Fz, Ga, Gb, Gc, Gd, Ge, Gf, Gg, Gh, Gi, Gj, Nat.reduceEqDiff, Nat.reduceAdd, Nat.reduceMul, Nat.reduceLT, Nat.reduceLeDiff, ↓reduceIte, Ml, Mm, Nat.reduceBEq, Mn, Mo, Mp, Mq, reduceCtorEq, Mr, Ms, Gk, Gl, Gm, Gn, Gp, Gq, Gr, Gs, Gt, Gu, Gv, Gw, Gx, Gy, Gz, Ha, Hb, Hc, Hd, He, Hf, Hg, Hh, Hj, Hk, Hl, Hm, Hn, Ho, Hq, Hr, Hs, Ht, Hu, Hv, Hw, Hy, Hz, Ia, Ib, Ic, Ie, Ig, Ih, Ii, Ij, Ik, Il, Im, Io, Ip, Iq, Ir, Iu, Iv, Iw, Iy, Iz, Ja, Jb, Jc, Jd, Je, Jf, Jg, Jh, Ji, Jj, Jk, Jl, Jm, Jn, Jo, Jp, Jq, Jr, Js, Jt, Ju, Jv, Jw, Jy, Jz, Ka, Kb, Kc, Ke, Kf, Kg, Kh, Ki, Kj, Kk, Kl, Km, Kn, Ko, Kq, Kr, Ks, Kt, Ku, Kv, Kw, Kx, Ky, Kz, La, Lb, Lc, Ld, Le, Lf, Lg, Lh, Li, Lj, Ll, Lm, Ln, Lp, and_self, true_and, and_true, Mt, Mu, Mv, Mw, Mx, My, Mz, Na, Nb, Nc, Nd, Nf, Ng, Nh, Int.reduceToNat, Int.reduceLT, Int.reduceEq, Int.reduceLE, List.getElem?_cons_zero, List.getElem?_cons_succ, Lr, Ls, Lt, Ni, Nj, Nk, Nl, gt_iff_lt, ge_iff_le, Lu, Lv, Lw, Lx, Ly, Ma, Nn, Np, Mb, Mc, Md, Me, Mf, Mg, Mh, Mi, Mj, Mk, Nq, Nr, op_call_deep _ _ h12 rfl, hcall, Q.s]


theorem loop18 {E : Env} (t : Int) (s : List UInt8) (hl : s.length ≤ 1000) (b4 : Blk) : ∀ (n k : Nat) (ws : List Int) (m : Nat), s.length ≤ k + n → ws.length = m → s.length ≤ 4 * m →
    blockR 0 [0, 1, 4, 5] (loopR E [0, 1, 4, 5, 6] l18_0 ⟨[(0, .int .u32 t), (1, .str s), (4, .loc 4 0), (5, .own 0 m 0 m), (6, .int .i64 k)], [(4, b4)], [.rows false 1 (u32s ws)]⟩) =
      some (.norm, ⟨[(0, .int .u32 t), (1, .str s), (4, .loc 4 0), (5, .own 0 m 0 m)], [(4, b4)], [.rows false 1 (u32s (bw (s.drop k) k ws))]⟩) := by
  intro n
  induction n with
  | zero =>
    intro k ws m hk hm hs
    have h1 : ¬ (k : Int) < (s.length : Int) := by omega
    rw [loopR]
    conv => lhs; arg 3; arg 1; rw [l18_0]
    simp only [Aa, Ab, Ac, Ad, Ae, Af, Ag, Ah, Ai, Aj, Ak, Al, Am, Ao, Ap, Aq, Ar, Au, Av, Aw, Ay, Az, Ba, Bb, Bc, Bd, Be, Bf, Bg, Bh, Bi, Bj, Bk, Bl, Bm, Bn, Bo, Bp, Bq, Br, Bs, Bt, Bv, Bw, Bx, Bz, Ca, Cb, Cc, Cd, Ce, Cf, Cg, Ch, Ci, Cj, Ck, Cl, Cm, Cn, Co, Cp, Cq, Cr, Cs, Ct, Cu, Cv, Cw, Cy, Cz, Da, Db, Dc, De, Df, Dg, Dh, Di, Dj, Dk, Dl, Dm, Dn, Option.map_some, Dp, Dq, Dr, Dt, Du, Dv, Dw, Dx, Dy, Dz, Ea, Eb, Ec, Ed, Ee, Ef, Eg, Eh, Ei, Ej, Ek, El, Em, Eo, Ep, Er, Es, Et, Eu, Ev, Ew, Ey, Ez, Fa, Fb, Fc, Fe, Ff, Fg, Fh, Fj, Fl, Fm, Fp, Fq, Fs, Ft, Fu, Fv, Fw, Fx, Fy, Fz, Ga, Gb, Gc, Gd, Ge, Gf, Gg, Gh, Gi, Gj, Nat.reduceEqDiff, Nat.reduceAdd, Nat.reduceMul, Nat.reduceLT, Nat.reduceLeDiff, ↓reduceIte, Ml, Mm, Nat.reduceBEq, Mn, Mo, Mp, Mq, reduceCtorEq, Mr, Ms, Gk, Gl, Gm, Gn, Gp, Gq, Gr, Gs, Gt, Gu, Gv, Gw, Gx, Gy, Gz, Ha, Hb, Hc, Hd, He, Hf, Hg, Hh, Hj, Hk, Hl, Hm, Hn, Ho, Hq, Hr, Hs, Ht, Hu, Hv, Hw, Hy, Hz, Ia, Ib, Ic, Ie, Ig, Ih, Ii, Ij, Ik, Il, Im, Io, Ip, Iq, Ir, Iu, Iv, Iw, Iy, Iz, Ja, Jb, Jc, Jd, Je, Jf, Jg, Jh, Ji, Jj, Jk, Jl, Jm, Jn, Jo, Jp, Jq, Jr, Js, Jt, Ju, Jv, Jw, Jy, Jz, Ka, Kb, Kc, Ke, Kf, Kg, Kh, Ki, Kj, Kk, Kl, Km, Kn, Ko, Kq, Kr, Ks, Kt, Ku, Kv, Kw, Kx, Ky, Kz, La, Lb, Lc, Ld, Le, Lf, Lg, Lh, Li, Lj, Ll, Lm, Ln, Lp, and_self, true_and, and_true, Mt, Mu, Mv, Mw, Mx, My, Mz, Na, Nb, Nc, Nd, Nf, Ng, Nh, Int.reduceToNat, Int.reduceLT, Int.reduceEq, Int.reduceLE, List.getElem?_cons_zero, List.getElem?_cons_succ, Lr, Ls, Lt, Ni, Nj, Nk, Nl, gt_iff_lt, ge_iff_le, Lu, Lv, Lw, Lx, Ly, Ma, Nn, Np, Mb, Mc, Md, Me, Mf, Mg, Mh, Mi, Mj, Mk, Nq, Nr, h1, decide_false]
    rw [List.drop_eq_nil_of_le (by omega)]
    rfl
  | succ n ih =>
    intro k ws m hk hm hs
    by_cases h : k < s.length
    · have h1 : (k : Int) < (s.length : Int) := by omega
      have hx : s[k]? = some s[k] := List.getElem?_eq_getElem h
      have hj : k / 4 < ws.length := by omega
      have hy := u32s_get (List.getElem?_eq_getElem hj)
      have hgd : ws.getD (k / 4) 0 = ws[k / 4] := by simp [List.getD, hj]
      have hw1 : IntKind.i64.wrap ((k : Int) + 1) = ((k + 1 : Nat) : Int) := wrap_i64 (by omega) (by omega)
      have hq : IntKind.i64.wrap ((k : Int).tdiv 4) = ((k / 4 : Nat) : Int) := by
        rw [show (k : Int).tdiv 4 = ((k / 4 : Nat) : Int) from rfl]
        exact wrap_i64 (by omega) (by omega)
      have hr : (k : Int).tmod 4 = ((k % 4 : Nat) : Int) := rfl
      have h8 : IntKind.i64.wrap (8 * ((k % 4 : Nat) : Int)) = ((8 * (k % 4) : Nat) : Int) := by
        rw [show 8 * ((k % 4 : Nat) : Int) = ((8 * (k % 4) : Nat) : Int) by simp]
        exact wrap_i64 (by omega) (by omega)
      have h8u : IntKind.u64.wrap ((8 * (k % 4) : Nat) : Int) = ((8 * (k % 4) : Nat) : Int) := wrap_u64 (by omega) (by omega)
      have h9 : ¬ ((8 * (k % 4) : Nat) : Int) < 0 := by omega
      have hlt : ((k / 4 : Nat) : Int) < (m : Int) := by omega
      have ih' := ih (k + 1) (ws.set (k / 4) (ibit .or .u32 ws[k / 4] (ishl .u32 (IntKind.u32.wrap s[k].toNat) (8 * (k % 4))))) m (by omega) (by simpa using hm) hs
      rw [loopR]
      conv => lhs; arg 3; arg 1; rw [l18_0]
      rw [List.drop_eq_getElem_cons h, bw, hgd]
      simp only [Aa, Ab, Ac, Ad, Ae, Af, Ag, Ah, Ai, Aj, Ak, Al, Am, Ao, Ap, Aq, Ar, Au, Av, Aw, Ay, Az, Ba, Bb, Bc, Bd, Be, Bf, Bg, Bh, Bi, Bj, Bk, Bl, Bm, Bn, Bo, Bp, Bq, Br, Bs, Bt, Bv, Bw, Bx, Bz, Ca, Cb, Cc, Cd, Ce, Cf, Cg, Ch, Ci, Cj, Ck, Cl, Cm, Cn, Co, Cp, Cq, Cr, Cs, Ct, Cu, Cv, Cw, Cy, Cz, Da, Db, Dc, De, Df, Dg, Dh, Di, Dj, Dk, Dl, Dm, Dn, Option.map_some, Dp, Dq, Dr, Dt, Du, Dv, Dw, Dx, Dy, Dz, Ea, Eb, Ec, Ed, Ee, Ef, Eg, Eh, Ei, Ej, Ek, El, Em, Eo, Ep, Er, Es, Et, Eu, Ev, Ew, Ey, Ez, Fa, Fb, Fc, Fe, Ff, Fg, Fh, Fj, Fl, Fm, Fp, Fq, Fs, Ft, Fu, Fv, Fw, Fx, Fy, Fz, Ga, Gb, Gc, Gd, Ge, Gf, Gg, Gh, Gi, Gj, Nat.reduceEqDiff, Nat.reduceAdd, Nat.reduceMul, Nat.reduceLT, Nat.reduceLeDiff, ↓reduceIte, Ml, Mm, Nat.reduceBEq, Mn, Mo, Mp, Mq, reduceCtorEq, Mr, Ms, Gk, Gl, Gm, Gn, Gp, Gq, Gr, Gs, Gt, Gu, Gv, Gw, Gx, Gy, Gz, Ha, Hb, Hc, Hd, He, Hf, Hg, Hh, Hj, Hk, Hl, Hm, Hn, Ho, Hq, Hr, Hs, Ht, Hu, Hv, Hw, Hy, Hz, Ia, Ib, Ic, Ie, Ig, Ih, Ii, Ij, Ik, Il, Im, Io, Ip, Iq, Ir, Iu, Iv, Iw, Iy, Iz, Ja, Jb, Jc, Jd, Je, Jf, Jg, Jh, Ji, Jj, Jk, Jl, Jm, Jn, Jo, Jp, Jq, Jr, Js, Jt, Ju, Jv, Jw, Jy, Jz, Ka, Kb, Kc, Ke, Kf, Kg, Kh, Ki, Kj, Kk, Kl, Km, Kn, Ko, Kq, Kr, Ks, Kt, Ku, Kv, Kw, Kx, Ky, Kz, La, Lb, Lc, Ld, Le, Lf, Lg, Lh, Li, Lj, Ll, Lm, Ln, Lp, and_self, true_and, and_true, Mt, Mu, Mv, Mw, Mx, My, Mz, Na, Nb, Nc, Nd, Nf, Ng, Nh, Int.reduceToNat, Int.reduceLT, Int.reduceEq, Int.reduceLE, List.getElem?_cons_zero, List.getElem?_cons_succ, Lr, Ls, Lt, Ni, Nj, Nk, Nl, gt_iff_lt, ge_iff_le, Lu, Lv, Lw, Lx, Ly, Ma, Nn, Np, Mb, Mc, Md, Me, Mf, Mg, Mh, Mi, Mj, Mk, Nq, Nr, h1, decide_true, rd18_0, d18_0, binS_quo, binS_rem, hx, hy, hq, hr, h8, h8u, h9, hlt, hw1, u32s_len, hm, u32s_set]
      exact ih'
    · have h1 : ¬ (k : Int) < (s.length : Int) := by omega
      rw [loopR]
      conv => lhs; arg 3; arg 1; rw [l18_0]
      simp only [Aa, Ab, Ac, Ad, Ae, Af, Ag, Ah, Ai, Aj, Ak, Al, Am, Ao, Ap, Aq, Ar, Au, Av, Aw, Ay, Az, Ba, Bb, Bc, Bd, Be, Bf, Bg, Bh, Bi, Bj, Bk, Bl, Bm, Bn, Bo, Bp, Bq, Br, Bs, Bt, Bv, Bw, Bx, Bz, Ca, Cb, Cc, Cd, Ce, Cf, Cg, Ch, Ci, Cj, Ck, Cl, Cm, Cn, Co, Cp, Cq, Cr, Cs, Ct, Cu, Cv, Cw, Cy, Cz, Da, Db, Dc, De, Df, Dg, Dh, Di, Dj, Dk, Dl, Dm, Dn, Option.map_some, Dp, Dq, Dr, Dt, Du, Dv, Dw, Dx, Dy, Dz, Ea, Eb, Ec, Ed, Ee, Ef, Eg, Eh, Ei, Ej, Ek, El, Em, Eo, Ep, Er, Es, Et, Eu, Ev, Ew, Ey, Ez, Fa, Fb, Fc, Fe, Ff, Fg, Fh, Fj, Fl, Fm, Fp, Fq, Fs, Ft, Fu, Fv, Fw, Fx, Fy, Fz, Ga, Gb, Gc, Gd, Ge, Gf, Gg, Gh, Gi, Gj, Nat.reduceEqDiff, Nat.reduceAdd, Nat.reduceMul, Nat.reduceLT, Nat.reduceLeDiff, ↓reduceIte, Ml, Mm, Nat.reduceBEq, Mn, Mo, Mp, Mq, reduceCtorEq, Mr, Ms, Gk, Gl, Gm, Gn, Gp, Gq, Gr, Gs, Gt, Gu, Gv, Gw, Gx, Gy, Gz, Ha, Hb, Hc, Hd, He, Hf, Hg, Hh, Hj, Hk, Hl, Hm, Hn, Ho, Hq, Hr, Hs, Ht, Hu, Hv, Hw, Hy, Hz, Ia, Ib, Ic, Ie, Ig, Ih, Ii, Ij, Ik, Il, Im, Io, Ip, Iq, Ir, Iu, Iv, Iw, Iy, Iz, Ja, Jb, Jc, Jd, Je, Jf, Jg, Jh, Ji, Jj, Jk, Jl, Jm, Jn, Jo, Jp, Jq, Jr, Js, Jt, Ju, Jv, Jw, Jy, Jz, Ka, Kb, Kc, Ke, Kf, Kg, Kh, Ki, Kj, Kk, Kl, Km, Kn, Ko, Kq, Kr, Ks, Kt, Ku, Kv, Kw, Kx, Ky, Kz, La, Lb, Lc, Ld, Le, Lf, Lg, Lh, Li, Lj, Ll, Lm, Ln, Lp, and_self, true_and, and_true, Mt, Mu, Mv, Mw, Mx, My, Mz, Na, Nb, Nc, Nd, Nf, Ng, Nh, Int.reduceToNat, Int.reduceLT, Int.reduceEq, Int.reduceLE, List.getElem?_cons_zero, List.getElem?_cons_succ, Lr, Ls, Lt, Ni, Nj, Nk, Nl, gt_iff_lt, ge_iff_le, Lu, Lv, Lw, Lx, Ly, Ma, Nn, Np, Mb, Mc, Md, Me, Mf, Mg, Mh, Mi, Mj, Mk, Nq, Nr, h1, decide_false]
      rw [List.drop_eq_nil_of_le (by omega)]
      rfl


theorem d_bytes18 {E : Env} (h26 : E 26 = some (.code c26)) (h13 : E 13 = some (.code c13)) (h12 : E 12 = some (.code c12)) (h18 : E 18 = some (.code c18)) (t : Int) (s : List UInt8) (hl : s.length ≤ 1000) (hp : Hp) :
    deepE E (Call E) 18 [.int .u32 t, .str s] hp = some (words t (textW s)).s := by
  rw [deep_code h18 rfl, deep_go]
  simp only [mapO_nil, mapO_cons, consO_some, snapA_int, snapA_str, goD_some]
  rw [Call_mk E h18 _ _ rfl]
  have hw1 : IntKind.i64.wrap ((s.length : Int) + 3) = ((s.length + 3 : Nat) : Int) := wrap_i64 (by omega) (by omega)
  have hq : IntKind.i64.wrap (((s.length + 3 : Nat) : Int).tdiv 4) = (((s.length + 3) / 4 : Nat) : Int) := by
    rw [show ((s.length + 3 : Nat) : Int).tdiv 4 = (((s.length + 3) / 4 : Nat) : Int) from rfl]
    exact wrap_i64 (by omega) (by omega)
  have hm1 : ((((s.length + 3) / 4 : Nat) : Int)) * 4 ≤ 140737488351232 := by omega
  have hm2 : ((((s.length + 3) / 4 : Nat) : Int)) ≤ 4611686018427387904 := by omega
  simp only [Aa, Ab, Ac, Ad, Ae, Af, Ag, Ah, Ai, Aj, Ak, Al, Am, Ao, Ap, Aq, Ar, Au, Av, Aw, Ay, Az, Ba, Bb, Bc, Bd, Be, Bf, Bg, Bh, Bi, Bj, Bk, Bl, Bm, Bn, Bo, Bp, Bq, Br, Bs, Bt, Bv, Bw, Bx, Bz, Ca, Cb, Cc, Cd, Ce, Cf, Cg, Ch, Ci, Cj, Ck, Cl, Cm, Cn, Co, Cp, Cq, Cr, Cs, Ct, Cu, Cv, Cw, Cy, Cz, Da, Db, Dc, De, Df, Dg, Dh, Di, Dj, Dk, Dl, Dm, Dn, Option.map_some, Dp, Dq, Dr, Dt, Du, Dv, Dw, Dx, Dy, Dz, Ea, Eb, Ec, Ed, Ee, Ef, Eg, Eh, Ei, Ej, Ek, El, Em, Eo, Ep, Er, Es, Et, Eu, Ev, Ew, Ey, Ez, Fa, Fb, Fc, Fe, Ff, Fg, Fh, Fj, Fl, Fm, Fp, Fq, Fs, Ft, Fu, Fv, Fw, Fx, Fy, Fz, Ga, Gb, Gc, Gd, Ge, Gf, Gg, Gh, Gi, Gj, Nat.reduceEqDiff, Nat.reduceAdd, Nat.reduceMul, Nat.reduceLT, Nat.reduceLeDiff, ↓reduceIte, Ml, Mm, Nat.reduceBEq, Mn, Mo, Mp, Mq, reduceCtorEq, Mr, Ms, Gk, Gl, Gm, Gn, Gp, Gq, Gr, Gs, Gt, Gu, Gv, Gw, Gx, Gy, Gz, Ha, Hb, Hc, Hd, He, Hf, Hg, Hh, Hj, Hk, Hl, Hm, Hn, Ho, Hq, Hr, Hs, Ht, Hu, Hv, Hw, Hy, Hz, Ia, Ib, Ic, Ie, Ig, Ih, Ii, Ij, Ik, Il, Im, Io, Ip, Iq, Ir, Iu, Iv, Iw, Iy, Iz, Ja, Jb, Jc, Jd, Je, Jf, Jg, Jh, Ji, Jj, Jk, Jl, Jm, Jn, Jo, Jp, Jq, Jr, Js, Jt, Ju, Jv, Jw, Jy, Jz, Ka, Kb, Kc, Ke, Kf, Kg, Kh, Ki, Kj, Kk, Kl, Km, Kn, Ko, Kq, Kr, Ks, Kt, Ku, Kv, Kw, Kx, Ky, Kz, La, Lb, Lc, Ld, Le, Lf, Lg, Lh, Li, Lj, Ll, Lm, Ln, Lp, and_self, true_and, and_true, Mt, Mu, Mv, Mw, Mx, My, Mz, Na, Nb, Nc, Nd, Nf, Ng, Nh, Int.reduceToNat, Int.reduceLT, Int.reduceEq, Int.reduceLE, List.getElem?_cons_zero, List.getElem?_cons_succ, Lr, Ls, Lt, Ni, Nj, Nk, Nl, gt_iff_lt, ge_iff_le, Lu, Lv, Lw, Lx, Ly, Ma, Nn, Np, Mb, Mc, Md, Me, Mf, Mg, Mh, Mi, Mj, Mk, Nq, Nr, hw1, binS_quo, hq, mkslR_int, hm1, hm2, u32s_rep, List.nil_append]
  have hloop := loop18 (E := E) t s hl (.rows false 4 [.agg [.int .u32 0, .int .u32 0, .int .u32 0, .int .u32 0]]) s.length 0 (List.replicate ((s.length + 3) / 4) 0) ((s.length + 3) / 4) (by omega) (by simp) (by omega)
  simp only [Int.cast_ofNat_Int, List.drop_zero] at hloop
  rw [hloop]
  have hlen : (bw s 0 (List.replicate ((s.length + 3) / 4) 0)).length = (s.length + 3) / 4 := by rw [bw_len]; simp
  have hap := fun (d : Nat) (os : List KO) (fr : Fr) (vars : Vars) => app_exact (E := E) (C := Call E) (d := d) (os := os) (fr := fr) (vars := vars) (H := [.rows false 1 (u32s (bw s 0 (List.replicate ((s.length + 3) / 4) 0)))]) (l := 0) (n := (s.length + 3) / 4) (esz := 1) (bytes := 4)
    (xs := u32s (bw s 0 (List.replicate ((s.length + 3) / 4) 0))) (f := true) (p := true) (ys := [.int .u32 (IntKind.u32.wrap s.length)]) rfl (by rw [u32s_len, hlen]) rfl (by simp [u32s_len, hlen, okLen]; omega) (by simp)
  have htw : u32s (bw s 0 (List.replicate ((s.length + 3) / 4) 0)) ++ [.int .u32 (IntKind.u32.wrap s.length)] = u32s (textW s) := by rw [textW, u32s_app]; rfl
  have htl : (textW s).length = (s.length + 3) / 4 + 1 := by simp [textW, hlen]
  simp only [htw, u32s_len, hlen, List.length_cons, List.length_nil, Nat.zero_add, List.cons_append, List.nil_append] at hap
  have hcall : deepE E (Call E) 12 [.int .u32 t, .own 1 ((s.length + 3) / 4 + 1) 0 ((s.length + 3) / 4 + 1)] [.rows false 1 (u32s (bw s 0 (List.replicate ((s.length + 3) / 4) 0))), .rows true 1 (u32s (textW s))] = some (words t (textW s)).s := by
    rw [← d_words12 h26 h13 h12 t false false (textW s) (by omega) [], deep_code h12 rfl, deep_code h12 rfl, deep_go, deep_go]
    rw [mapO_cons, mapO_cons, snapA_last (l := 1) (xs := u32s (textW s)) rfl (by rw [u32s_len, htl]) (u32s_atom _)]
    simp only [mapO_nil, mapO_cons, consO_some, snapA_int, snapA_list]
  simp only [Aa, Ab, Ac, Ad, Ae, Af, Ag, Ah, Ai, Aj, Ak, Al, Am, Ao, Ap, Aq, Ar, Au, Av, Aw, Ay, Az, Ba, Bb, Bc, Bd, Be, Bf, Bg, Bh, Bi, Bj, Bk, Bl, Bm, Bn, Bo, Bp, Bq, Br, Bs, Bt, Bv, Bw, Bx, Bz, Ca, Cb, Cc, Cd, Ce, Cf, Cg, Ch, Ci, Cj, Ck, Cl, Cm, Cn, Co, Cp, Cq, Cr, Cs, Ct, Cu, Cv, Cw, Cy, Cz, Da, Db, Dc, De, Df, Dg, Dh, Di, Dj, Dk, Dl, Dm, Dn, Option.map_some, Dp, Dq, Dr, Dt, Du, Dv, Dw, Dx, Dy, Dz, Ea, Eb, Ec, Ed, Ee, Ef, Eg, Eh, Ei, Ej, Ek, El, Em, Eo, Ep, Er, Es, Et, Eu, Ev, Ew, Ey, Ez, Fa, Fb, Fc, Fe, Ff, Fg, Fh, Fj, Fl, Fm, Fp, Fq, Fs, Ft, Fu, Fv, Fw, Fx, Fy, Fz, Ga, Gb, Gc, Gd, Ge, Gf, Gg, Gh, Gi, Gj, Nat.reduceEqDiff, Nat.reduceAdd, Nat.reduceMul, Nat.reduceLT, Nat.reduceLeDiff, ↓reduceIte, Ml, Mm, Nat.reduceBEq, Mn, Mo, Mp, Mq, reduceCtorEq, Mr, Ms, Gk, Gl, Gm, Gn, Gp, Gq, Gr, Gs, Gt, Gu, Gv, Gw, Gx, Gy, Gz, Ha, Hb, Hc, Hd, He, Hf, Hg, Hh, Hj, Hk, Hl, Hm, Hn, Ho, Hq, Hr, Hs, Ht, Hu, Hv, Hw, Hy, Hz, Ia, Ib, Ic, Ie, Ig, Ih, Ii, Ij, Ik, Il, Im, Io, Ip, Iq, Ir, Iu, Iv, Iw, Iy, Iz, Ja, Jb, Jc, Jd, Je, Jf, Jg, Jh, Ji, Jj, Jk, Jl, Jm, Jn, Jo, Jp, Jq, Jr, Js, Jt, Ju, Jv, Jw, Jy, Jz, Ka, Kb, Kc, Ke, Kf, Kg, Kh, Ki, Kj, Kk, Kl, Km, Kn, Ko, Kq, Kr, Ks, Kt, Ku, Kv, Kw, Kx, Ky, Kz, La, Lb, Lc, Ld, Le, Lf, Lg, Lh, Li, Lj, Ll, Lm, Ln, Lp, and_self, true_and, and_true, Mt, Mu, Mv, Mw, Mx, My, Mz, Na, Nb, Nc, Nd, Nf, Ng, Nh, Int.reduceToNat, Int.reduceLT, Int.reduceEq, Int.reduceLE, List.getElem?_cons_zero, List.getElem?_cons_succ, Lr, Ls, Lt, Ni, Nj, Nk, Nl, gt_iff_lt, ge_iff_le, Lu, Lv, Lw, Lx, Ly, Ma, Nn, Np, Mb, Mc, Md, Me, Mf, Mg, Mh, Mi, Mj, Mk, Nq, Nr, hap, op_call_deep _ _ h12 rfl, hcall, Q.s]



/-! Regions of open order, step by step. -/
theorem runD_step {E : Env} {call : CallF} {slot slot' : Nat} {o : KO} {os : List KO} {st st' : St} {l : List En} {v : S} {rd : List L} {wr : List (L × Blk)}
    (hg : o.guard = none) (he : evalK (deepE E call) slot st o.op = some (v, rd, wr)) (hs : (if o.op.allocs then slot + 1 else slot) = slot')
    (hc : wr.all (fun w => inHp st.hp.length w.1) = true ∧ (o.op.allocs = false ∨ isDead (st.hp[slot]?) = true) ∧ o.op.fvar = none)
    (hr : runD E call slot' os ((st.wrs wr).put o.dst v) = some (st', l)) :
    runD E call slot (o :: os) st = some (st', ⟨o, v, if o.op.allocs then .h slot :: rd else rd, wr⟩ :: l) := by
  rw [runD, hg]
  simp only [wantK, he, if_pos hc, hs, hr]
theorem regionD_of {E : Env} {ops : List KO} {st st2 : St} {r : Option (St × List En)} {st' : St} {l : List En} (h : runD E (Call E) st.hp.length ops { st with hp := st.hp ++ deads ops } = r) (hr : r = some (st', l)) (ho : orderOk (ancs ops []) 0 [] l = true) (ha : aftersOk 0 ops = true) (he : { st' with hp := trim st'.hp } = st2) :
    Run E (.dregion ops) st = some (.norm, st2) := by
  subst he hr
  rw [Run_dregion, regionD, h]
  simp only [ho, ha, and_self, if_true, Option.map_some]

/-! Pairs. -/
theorem join_own {E : Env} (a b c d e f g h : Int) (w : Int) {i : Nat} (hi : ∀ (l : List Int) (fl pr : Bool) (hp : Hp), l.length ≤ 140737488351232 → deepE E (Call E) i [.int .u32 w, .list fl pr (u32s l)] hp = some (words w l).s) {cc : CFun} (hE : E i = some (.code cc)) (hd : cc.deep = true) (H : Hp) (l : Nat) (fz : Bool)
    (hb : H[l]? = some (.rows fz 1 (u32s [a, b, c, d, e, f, g, h]))) : deepE E (Call E) i [.int .u32 w, .own l 8 0 8] H = some (words w [a, b, c, d, e, f, g, h]).s := by
  rw [← hi [a, b, c, d, e, f, g, h] false false H (by simp), deep_code hE hd, deep_code hE hd, deep_go, deep_go]
  rw [mapO_cons, mapO_cons, snapA_last hb (by simp [u32s]) (u32s_atom _)]
  simp only [mapO_nil, mapO_cons, consO_some, snapA_int, snapA_list]

theorem u32s8 (a b c d e f g h : Int) : u32s [a, b, c, d, e, f, g, h] = [.int .u32 a, .int .u32 b, .int .u32 c, .int .u32 d, .int .u32 e, .int .u32 f, .int .u32 g, .int .u32 h] := rfl

theorem app8 (a b c d e f g h : Int) : ∀ vars, appV vars [.rows false 1 [.int .u32 a, .int .u32 b, .int .u32 c, .int .u32 d], .rows false 1 [.int .u32 e, .int .u32 f, .int .u32 g, .int .u32 h]] 1 4 (.own 0 4 0 4) (.own 1 4 0 4) =
    some (.own 2 8 0 8, [.h 0, .h 1], [(.h 2, .rows true 1 [.int .u32 a, .int .u32 b, .int .u32 c, .int .u32 d, .int .u32 e, .int .u32 f, .int .u32 g, .int .u32 h])]) := by
  intro vars
  simp [appV, elemsR, appendR, eszAll, S.cells, okLen]

theorem d_join19 {E : Env} (h25 : E 25 = some (.code c25)) (h9 : E 9 = some (.code c9)) (h14 : E 14 = some (.code c14)) (h19 : E 19 = some (.code c19)) (a b c d e f g h : Int) (hp : Hp) :
    deepE E (Call E) 19 [.agg [.int .u32 a, .int .u32 b, .int .u32 c, .int .u32 d], .agg [.int .u32 e, .int .u32 f, .int .u32 g, .int .u32 h]] hp = some (words 1 [a, b, c, d, e, f, g, h]).s := by
  rw [deep_code h19 rfl, deep_go]
  simp only [mapO_nil, mapO_cons, consO_some, snapA_agg, snapC_int, aggO_some, goD_some]
  rw [Call_mk E h19 _ _ rfl]
  have hw := fun (H : Hp) l fz hb => join_own (E := E) a b c d e f g h 1 (i := 14) (fun l fl pr hp hl => d_words14 h25 h9 h14 1 fl pr l hl hp) h14 rfl H l fz hb
  have hap := app8 a b c d e f g h
  simp only [u32s8] at hw
  have hcall := hw [.rows false 1 [.int .u32 a, .int .u32 b, .int .u32 c, .int .u32 d], .rows false 1 [.int .u32 e, .int .u32 f, .int .u32 g, .int .u32 h], .rows true 1 [.int .u32 a, .int .u32 b, .int .u32 c, .int .u32 d, .int .u32 e, .int .u32 f, .int .u32 g, .int .u32 h]] 2 true rfl
  simp only [Aa, Ab, Ac, Ad, Ae, Af, Ag, Ah, Ai, Aj, Ak, Al, Am, Ao, Ap, Aq, Ar, Au, Av, Aw, Ay, Az, Ba, Bb, Bc, Bd, Be, Bf, Bg, Bh, Bi, Bj, Bk, Bl, Bm, Bn, Bo, Bp, Bq, Br, Bs, Bt, Bv, Bw, Bx, Bz, Ca, Cb, Cc, Cd, Ce, Cf, Cg, Ch, Ci, Cj, Ck, Cl, Cm, Cn, Co, Cp, Cq, Cr, Cs, Ct, Cu, Cv, Cw, Cy, Cz, Da, Db, Dc, De, Df, Dg, Dh, Di, Dj, Dk, Dl, Dm, Dn, Option.map_some, Dp, Dq, Dr, Dt, Du, Dv, Dw, Dx, Dy, Dz, Ea, Eb, Ec, Ed, Ee, Ef, Eg, Eh, Ei, Ej, Ek, El, Em, Eo, Ep, Er, Es, Et, Eu, Ev, Ew, Ey, Ez, Fa, Fb, Fc, Fe, Ff, Fg, Fh, Fj, Fl, Fm, Fp, Fq, Fs, Ft, Fu, Fv, Fw, Fx, Fy, Fz, Ga, Gb, Gc, Gd, Ge, Gf, Gg, Gh, Gi, Gj, Nat.reduceEqDiff, Nat.reduceAdd, Nat.reduceMul, Nat.reduceLT, Nat.reduceLeDiff, ↓reduceIte, Ml, Mm, Nat.reduceBEq, Mn, Mo, Mp, Mq, reduceCtorEq, Mr, Ms, Gk, Gl, Gm, Gn, Gp, Gq, Gr, Gs, Gt, Gu, Gv, Gw, Gx, Gy, Gz, Ha, Hb, Hc, Hd, He, Hf, Hg, Hh, Hj, Hk, Hl, Hm, Hn, Ho, Hq, Hr, Hs, Ht, Hu, Hv, Hw, Hy, Hz, Ia, Ib, Ic, Ie, Ig, Ih, Ii, Ij, Ik, Il, Im, Io, Ip, Iq, Ir, Iu, Iv, Iw, Iy, Iz, Ja, Jb, Jc, Jd, Je, Jf, Jg, Jh, Ji, Jj, Jk, Jl, Jm, Jn, Jo, Jp, Jq, Jr, Js, Jt, Ju, Jv, Jw, Jy, Jz, Ka, Kb, Kc, Ke, Kf, Kg, Kh, Ki, Kj, Kk, Kl, Km, Kn, Ko, Kq, Kr, Ks, Kt, Ku, Kv, Kw, Kx, Ky, Kz, La, Lb, Lc, Ld, Le, Lf, Lg, Lh, Li, Lj, Ll, Lm, Ln, Lp, and_self, true_and, and_true, Mt, Mu, Mv, Mw, Mx, My, Mz, Na, Nb, Nc, Nd, Nf, Ng, Nh, Int.reduceToNat, Int.reduceLT, Int.reduceEq, Int.reduceLE, List.getElem?_cons_zero, List.getElem?_cons_succ, Lr, Ls, Lt, Ni, Nj, Nk, Nl, gt_iff_lt, ge_iff_le, Lu, Lv, Lw, Lx, Ly, Ma, Nn, Np, Mb, Mc, Md, Me, Mf, Mg, Mh, Mi, Mj, Mk, Nq, Nr, rd19_0 E (deepB_code h14 rfl), d19_0, chunks_succ, chunks_zero, List.cons_append, List.nil_append, asliceV, bnd, Nat.sub_zero, hap, op_call_deep _ _ h14 rfl, hcall, Q.s]

theorem d_join20 {E : Env} (h26 : E 26 = some (.code c26)) (h13 : E 13 = some (.code c13)) (h12 : E 12 = some (.code c12)) (h20 : E 20 = some (.code c20)) (a b c d e f g h : Int) (hp : Hp) :
    deepE E (Call E) 20 [.agg [.int .u32 a, .int .u32 b, .int .u32 c, .int .u32 d], .agg [.int .u32 e, .int .u32 f, .int .u32 g, .int .u32 h]] hp = some (words 1 [a, b, c, d, e, f, g, h]).s := by
  rw [deep_code h20 rfl, deep_go]
  simp only [mapO_nil, mapO_cons, consO_some, snapA_agg, snapC_int, aggO_some, goD_some]
  rw [Call_mk E h20 _ _ rfl]
  have hw := fun (H : Hp) l fz hb => join_own (E := E) a b c d e f g h 1 (i := 12) (fun l fl pr hp hl => d_words12 h26 h13 h12 1 fl pr l hl hp) h12 rfl H l fz hb
  simp only [u32s8] at hw
  have hcall := hw [.rows false 1 [.int .u32 a, .int .u32 b, .int .u32 c, .int .u32 d], .rows false 1 [.int .u32 e, .int .u32 f, .int .u32 g, .int .u32 h], .rows true 1 [.int .u32 a, .int .u32 b, .int .u32 c, .int .u32 d, .int .u32 e, .int .u32 f, .int .u32 g, .int .u32 h], .dead] 2 true rfl
  have hreg : Run E (.dregion d20_0) ⟨[(4, .loc 4 0), (3, .ptr 1 4 0 0), (2, .ptr 0 4 0 0), (0, S.agg [.int .u32 a, .int .u32 b, .int .u32 c, .int .u32 d]), (1, S.agg [.int .u32 e, .int .u32 f, .int .u32 g, .int .u32 h])], [(4, .rows false 4 [.agg [.int .u32 0, .int .u32 0, .int .u32 0, .int .u32 0]])],
      [.rows false 1 [.int .u32 a, .int .u32 b, .int .u32 c, .int .u32 d], .rows false 1 [.int .u32 e, .int .u32 f, .int .u32 g, .int .u32 h]]⟩ =
        some (.norm, ⟨[(9, (words 1 [a, b, c, d, e, f, g, h]).s), (8, .own 2 8 0 8), (7, .own 1 4 0 4), (6, .own 2 4 0 4), (5, .own 0 4 0 4), (4, .loc 4 0), (3, .ptr 1 4 0 0), (2, .ptr 0 4 0 0), (0, S.agg [.int .u32 a, .int .u32 b, .int .u32 c, .int .u32 d]), (1, S.agg [.int .u32 e, .int .u32 f, .int .u32 g, .int .u32 h])],
          [(4, .rows false 4 [(words 1 [a, b, c, d, e, f, g, h]).s])], [.rows false 1 [.int .u32 a, .int .u32 b, .int .u32 c, .int .u32 d], .rows false 1 [.int .u32 e, .int .u32 f, .int .u32 g, .int .u32 h], .rows true 1 [.int .u32 a, .int .u32 b, .int .u32 c, .int .u32 d, .int .u32 e, .int .u32 f, .int .u32 g, .int .u32 h]]⟩) := by
    have hev : ∀ fr vars, getF fr 8 = .own 2 8 0 8 → evalK (deepE E (Call E)) 4 ⟨fr, vars, [.rows false 1 [.int .u32 a, .int .u32 b, .int .u32 c, .int .u32 d], .rows false 1 [.int .u32 e, .int .u32 f, .int .u32 g, .int .u32 h], .rows true 1 [.int .u32 a, .int .u32 b, .int .u32 c, .int .u32 d, .int .u32 e, .int .u32 f, .int .u32 g, .int .u32 h], .dead]⟩ (.call 12 [.c (.int .u32 1), .t 8]) = some ((words 1 [a, b, c, d, e, f, g, h]).s, [.h 2], []) := by
      intro fr vars hg
      simp only [evalK, evs, A.ev, hg, hcall]
      rfl
    refine regionD_of (ops := d20_0) (runD_step (slot' := 2) rfl rfl rfl ⟨rfl, .inl rfl, rfl⟩ (runD_step (slot' := 3) rfl rfl rfl ⟨rfl, .inr rfl, rfl⟩ (runD_step (slot' := 3) rfl rfl rfl ⟨rfl, .inl rfl, rfl⟩ (runD_step (slot' := 4) rfl rfl rfl ⟨rfl, .inr rfl, rfl⟩ (runD_step (slot' := 4) rfl (hev _ _ rfl) rfl ⟨rfl, .inl rfl, rfl⟩ (runD_step (slot' := 4) rfl rfl rfl ⟨rfl, .inl rfl, rfl⟩ rfl)))))) rfl rfl rfl rfl
  simp only [Aa, Ab, Ac, Ad, Ae, Af, Ag, Ah, Ai, Aj, Ak, Al, Am, Ao, Ap, Aq, Ar, Au, Av, Aw, Ay, Az, Ba, Bb, Bc, Bd, Be, Bf, Bg, Bh, Bi, Bj, Bk, Bl, Bm, Bn, Bo, Bp, Bq, Br, Bs, Bt, Bv, Bw, Bx, Bz, Ca, Cb, Cc, Cd, Ce, Cf, Cg, Ch, Ci, Cj, Ck, Cl, Cm, Cn, Co, Cp, Cq, Cr, Cs, Ct, Cu, Cv, Cw, Cy, Cz, Da, Db, Dc, De, Df, Dg, Dh, Di, Dj, Dk, Dl, Dm, Dn, Option.map_some, Dp, Dq, Dr, Dt, Du, Dv, Dw, Dx, Dy, Dz, Ea, Eb, Ec, Ed, Ee, Ef, Eg, Eh, Ei, Ej, Ek, El, Em, Eo, Ep, Er, Es, Et, Eu, Ev, Ew, Ey, Ez, Fa, Fb, Fc, Fe, Ff, Fg, Fh, Fj, Fl, Fm, Fp, Fq, Fs, Ft, Fu, Fv, Fw, Fx, Fy, Fz, Ga, Gb, Gc, Gd, Ge, Gf, Gg, Gh, Gi, Gj, Nat.reduceEqDiff, Nat.reduceAdd, Nat.reduceMul, Nat.reduceLT, Nat.reduceLeDiff, ↓reduceIte, Ml, Mm, Nat.reduceBEq, Mn, Mo, Mp, Mq, reduceCtorEq, Mr, Ms, Gk, Gl, Gm, Gn, Gp, Gq, Gr, Gs, Gt, Gu, Gv, Gw, Gx, Gy, Gz, Ha, Hb, Hc, Hd, He, Hf, Hg, Hh, Hj, Hk, Hl, Hm, Hn, Ho, Hq, Hr, Hs, Ht, Hu, Hv, Hw, Hy, Hz, Ia, Ib, Ic, Ie, Ig, Ih, Ii, Ij, Ik, Il, Im, Io, Ip, Iq, Ir, Iu, Iv, Iw, Iy, Iz, Ja, Jb, Jc, Jd, Je, Jf, Jg, Jh, Ji, Jj, Jk, Jl, Jm, Jn, Jo, Jp, Jq, Jr, Js, Jt, Ju, Jv, Jw, Jy, Jz, Ka, Kb, Kc, Ke, Kf, Kg, Kh, Ki, Kj, Kk, Kl, Km, Kn, Ko, Kq, Kr, Ks, Kt, Ku, Kv, Kw, Kx, Ky, Kz, La, Lb, Lc, Ld, Le, Lf, Lg, Lh, Li, Lj, Ll, Lm, Ln, Lp, and_self, true_and, and_true, Mt, Mu, Mv, Mw, Mx, My, Mz, Na, Nb, Nc, Nd, Nf, Ng, Nh, Int.reduceToNat, Int.reduceLT, Int.reduceEq, Int.reduceLE, List.getElem?_cons_zero, List.getElem?_cons_succ, Lr, Ls, Lt, Ni, Nj, Nk, Nl, gt_iff_lt, ge_iff_le, Lu, Lv, Lw, Lx, Ly, Ma, Nn, Np, Mb, Mc, Md, Me, Mf, Mg, Mh, Mi, Mj, Mk, Nq, Nr, chunks_succ, chunks_zero, List.cons_append, List.nil_append]
  rw [hreg]
  simp only [Aa, Ab, Ac, Ad, Ae, Af, Ag, Ah, Ai, Aj, Ak, Al, Am, Ao, Ap, Aq, Ar, Au, Av, Aw, Ay, Az, Ba, Bb, Bc, Bd, Be, Bf, Bg, Bh, Bi, Bj, Bk, Bl, Bm, Bn, Bo, Bp, Bq, Br, Bs, Bt, Bv, Bw, Bx, Bz, Ca, Cb, Cc, Cd, Ce, Cf, Cg, Ch, Ci, Cj, Ck, Cl, Cm, Cn, Co, Cp, Cq, Cr, Cs, Ct, Cu, Cv, Cw, Cy, Cz, Da, Db, Dc, De, Df, Dg, Dh, Di, Dj, Dk, Dl, Dm, Dn, Option.map_some, Dp, Dq, Dr, Dt, Du, Dv, Dw, Dx, Dy, Dz, Ea, Eb, Ec, Ed, Ee, Ef, Eg, Eh, Ei, Ej, Ek, El, Em, Eo, Ep, Er, Es, Et, Eu, Ev, Ew, Ey, Ez, Fa, Fb, Fc, Fe, Ff, Fg, Fh, Fj, Fl, Fm, Fp, Fq, Fs, Ft, Fu, Fv, Fw, Fx, Fy, Fz, Ga, Gb, Gc, Gd, Ge, Gf, Gg, Gh, Gi, Gj, Nat.reduceEqDiff, Nat.reduceAdd, Nat.reduceMul, Nat.reduceLT, Nat.reduceLeDiff, ↓reduceIte, Ml, Mm, Nat.reduceBEq, Mn, Mo, Mp, Mq, reduceCtorEq, Mr, Ms, Gk, Gl, Gm, Gn, Gp, Gq, Gr, Gs, Gt, Gu, Gv, Gw, Gx, Gy, Gz, Ha, Hb, Hc, Hd, He, Hf, Hg, Hh, Hj, Hk, Hl, Hm, Hn, Ho, Hq, Hr, Hs, Ht, Hu, Hv, Hw, Hy, Hz, Ia, Ib, Ic, Ie, Ig, Ih, Ii, Ij, Ik, Il, Im, Io, Ip, Iq, Ir, Iu, Iv, Iw, Iy, Iz, Ja, Jb, Jc, Jd, Je, Jf, Jg, Jh, Ji, Jj, Jk, Jl, Jm, Jn, Jo, Jp, Jq, Jr, Js, Jt, Ju, Jv, Jw, Jy, Jz, Ka, Kb, Kc, Ke, Kf, Kg, Kh, Ki, Kj, Kk, Kl, Km, Kn, Ko, Kq, Kr, Ks, Kt, Ku, Kv, Kw, Kx, Ky, Kz, La, Lb, Lc, Ld, Le, Lf, Lg, Lh, Li, Lj, Ll, Lm, Ln, Lp, and_self, true_and, and_true, Mt, Mu, Mv, Mw, Mx, My, Mz, Na, Nb, Nc, Nd, Nf, Ng, Nh, Int.reduceToNat, Int.reduceLT, Int.reduceEq, Int.reduceLE, List.getElem?_cons_zero, List.getElem?_cons_succ, Lr, Ls, Lt, Ni, Nj, Nk, Nl, gt_iff_lt, ge_iff_le, Lu, Lv, Lw, Lx, Ly, Ma, Nn, Np, Mb, Mc, Md, Me, Mf, Mg, Mh, Mi, Mj, Mk, Nq, Nr, Q.s]
end Go.Proofs.Ytkafliflpplpeaa.Sim
namespace Go.Proofs.Ytkafliflpplpeaa.Sim
set_option linter.unusedSimpArgs false
set_option linter.unusedVariables false
open Go
set_option maxRecDepth 100000
set_option linter.unusedSimpArgs false

/-- The functions are there. -/
structure HasW (E : Env) : Prop where
  e9 : E 9 = some (.code c9)
  e12 : E 12 = some (.code c12)
  e13 : E 13 = some (.code c13)
  e14 : E 14 = some (.code c14)
  e19 : E 19 = some (.code c19)
  e20 : E 20 = some (.code c20)
  e25 : E 25 = some (.code c25)
  e26 : E 26 = some (.code c26)

def dS (l : List Q) : List S := l.map Q.s
theorem dS_len (l : List Q) : (dS l).length = l.length := by simp [dS]
theorem dS_get {l : List Q} {k : Nat} {x : Q} (h : l[k]? = some x) : (dS l)[k]? = some x.s := by simp [dS, h]
theorem dS_app (a b : List Q) : dS (a ++ b) = dS a ++ dS b := by simp [dS]
theorem dS_take (n : Nat) (l : List Q) : (dS l).take n = dS (l.take n) := by simp [dS, List.map_take]
theorem dS_drop (n : Nat) (l : List Q) : (dS l).drop n = dS (l.drop n) := by simp [dS, List.map_drop]
theorem dS_esz (l : List Q) : eszAll 4 (dS l) = true := by simp [dS, eszAll, S.cells, Q.s]
theorem dS_atom (l : List Q) : (dS l).all S.atomR = true := by simp [dS, S.atomR, S.atom, Q.s]

def leafQ (q : Q) : Q := words 0 [q.a, q.b, q.c, q.d]
def joinQ (x y : Q) : Q := words 1 [x.a, x.b, x.c, x.d, y.a, y.b, y.c, y.d]

def splG : Nat → Nat → Nat → Nat
  | 0, k, _ => k
  | m + 1, k, n => if k + k < n then splG m (k * 2) n else k
/-- The greatest power of two below. -/
def spl (n : Nat) : Nat := if n < 2 then 0 else splG n 1 n

theorem splG_bd : ∀ (m k n : Nat), 1 ≤ k → k < n → n ≤ m + k → k ≤ splG m k n ∧ splG m k n < n ∧ n ≤ 2 * splG m k n
  | 0, k, n, _, h, hm => by omega
  | m + 1, k, n, h1, h, hm => by
    rw [splG]
    split
    · have := splG_bd m (k * 2) n (by omega) (by omega) (by omega); omega
    · omega
theorem spl_bd {n : Nat} (h : 2 ≤ n) : 1 ≤ spl n ∧ spl n < n ∧ n ≤ 2 * spl n := by
  rw [spl, if_neg (by omega)]
  have := splG_bd n 1 n (by omega) (by omega) (by omega)
  omega

theorem own4 {E : Env} (q : Q) (w : Int) {i : Nat} (hi : ∀ (l : List Int) (fl pr : Bool) (hp : Hp), l.length ≤ 140737488351232 → deepE E (Call E) i [.int .u32 w, .list fl pr (u32s l)] hp = some (words w l).s) {cc : CFun} (hE : E i = some (.code cc)) (hd : cc.deep = true) (H : Hp) (l : Nat) (fz : Bool)
    (hb : H[l]? = some (.rows fz 1 [.int .u32 q.a, .int .u32 q.b, .int .u32 q.c, .int .u32 q.d])) : deepE E (Call E) i [.int .u32 w, .own l 4 0 4] H = some (words w [q.a, q.b, q.c, q.d]).s := by
  rw [← hi [q.a, q.b, q.c, q.d] false false H (by simp), deep_code hE hd, deep_code hE hd, deep_go, deep_go]
  rw [mapO_cons, mapO_cons, snapA_last hb (by simp) (by simp [S.atomR, S.atom])]
  simp only [mapO_nil, mapO_cons, consO_some, snapA_int, snapA_list]
  rfl

theorem d_leaf238 {E : Env} (W : HasW E) (h238 : E 238 = some (.code c238)) (q : Q) (hp : Hp) : deepE E (Call E) 238 [q.s] hp = some (leafQ q).s := by
  rw [deep_code h238 rfl, deep_go]
  simp only [Q.s, mapO_nil, mapO_cons, consO_some, snapA_agg, snapC_int, aggO_some, goD_some]
  rw [Call_mk E h238 _ _ rfl]
  have hw := own4 (E := E) q 0 (i := 14) (fun l fl pr hp hl => d_words14 W.e25 W.e9 W.e14 0 fl pr l hl hp) W.e14 rfl [.rows false 1 [.int .u32 q.a, .int .u32 q.b, .int .u32 q.c, .int .u32 q.d]] 0 false rfl
  simp only [Aa, Ab, Ac, Ad, Ae, Af, Ag, Ah, Ai, Aj, Ak, Al, Am, Ao, Ap, Aq, Ar, Au, Av, Aw, Ay, Az, Ba, Bb, Bc, Bd, Be, Bf, Bg, Bh, Bi, Bj, Bk, Bl, Bm, Bn, Bo, Bp, Bq, Br, Bs, Bt, Bv, Bw, Bx, Bz, Ca, Cb, Cc, Cd, Ce, Cf, Cg, Ch, Ci, Cj, Ck, Cl, Cm, Cn, Co, Cp, Cq, Cr, Cs, Ct, Cu, Cv, Cw, Cy, Cz, Da, Db, Dc, De, Df, Dg, Dh, Di, Dj, Dk, Dl, Dm, Dn, Option.map_some, Dp, Dq, Dr, Dt, Du, Dv, Dw, Dx, Dy, Dz, Ea, Eb, Ec, Ed, Ee, Ef, Eg, Eh, Ei, Ej, Ek, El, Em, Eo, Ep, Er, Es, Et, Eu, Ev, Ew, Ey, Ez, Fa, Fb, Fc, Fe, Ff, Fg, Fh, Fj, Fl, Fm, Fp, Fq, Fs, Ft, Fu, Fv, Fw, Fx, Fy, Fz, Ga, Gb, Gc, Gd, Ge, Gf, Gg, Gh, Gi, Gj, Nat.reduceEqDiff, Nat.reduceAdd, Nat.reduceMul, Nat.reduceLT, Nat.reduceLeDiff, ↓reduceIte, Ml, Mm, Nat.reduceBEq, Mn, Mo, Mp, Mq, reduceCtorEq, Mr, Ms, Gk, Gl, Gm, Gn, Gp, Gq, Gr, Gs, Gt, Gu, Gv, Gw, Gx, Gy, Gz, Ha, Hb, Hc, Hd, He, Hf, Hg, Hh, Hj, Hk, Hl, Hm, Hn, Ho, Hq, Hr, Hs, Ht, Hu, Hv, Hw, Hy, Hz, Ia, Ib, Ic, Ie, Ig, Ih, Ii, Ij, Ik, Il, Im, Io, Ip, Iq, Ir, Iu, Iv, Iw, Iy, Iz, Ja, Jb, Jc, Jd, Je, Jf, Jg, Jh, Ji, Jj, Jk, Jl, Jm, Jn, Jo, Jp, Jq, Jr, Js, Jt, Ju, Jv, Jw, Jy, Jz, Ka, Kb, Kc, Ke, Kf, Kg, Kh, Ki, Kj, Kk, Kl, Km, Kn, Ko, Kq, Kr, Ks, Kt, Ku, Kv, Kw, Kx, Ky, Kz, La, Lb, Lc, Ld, Le, Lf, Lg, Lh, Li, Lj, Ll, Lm, Ln, Lp, and_self, true_and, and_true, Mt, Mu, Mv, Mw, Mx, My, Mz, Na, Nb, Nc, Nd, Nf, Ng, Nh, Int.reduceToNat, Int.reduceLT, Int.reduceEq, Int.reduceLE, List.getElem?_cons_zero, List.getElem?_cons_succ, Lr, Ls, Lt, Ni, Nj, Nk, Nl, gt_iff_lt, ge_iff_le, Lu, Lv, Lw, Lx, Ly, Ma, Nn, Np, Mb, Mc, Md, Me, Mf, Mg, Mh, Mi, Mj, Mk, Nq, Nr, chunks_succ, chunks_zero, List.cons_append, List.nil_append, asliceV, bnd, Nat.sub_zero, op_call_deep _ _ W.e14 rfl, hw, Q.s, leafQ]

theorem loop243 {E : Env} (n : Nat) (hn : n ≤ 1000000) : ∀ (m k : Nat), n ≤ m + k → 1 ≤ k → k ≤ 1000000 →
    blockR 0 [3] (loopR E [0, 3] l243_0 ⟨[(0, .int .i64 n), (3, .int .i64 k)], [], []⟩) = some (.norm, ⟨[(3, .int .i64 (splG m k n))], [], []⟩) := by
  intro m
  induction m with
  | zero =>
    intro k h1 h2 h3
    have hw : IntKind.i64.wrap ((n : Int) - k) = (n : Int) - k := wrap_i64 (by omega) (by omega)
    have hc : ¬ (k : Int) < (n : Int) - k := by omega
    rw [loopR]
    conv => lhs; arg 3; arg 1; rw [l243_0]
    simp only [Aa, Ab, Ac, Ad, Ae, Af, Ag, Ah, Ai, Aj, Ak, Al, Am, Ao, Ap, Aq, Ar, Au, Av, Aw, Ay, Az, Ba, Bb, Bc, Bd, Be, Bf, Bg, Bh, Bi, Bj, Bk, Bl, Bm, Bn, Bo, Bp, Bq, Br, Bs, Bt, Bv, Bw, Bx, Bz, Ca, Cb, Cc, Cd, Ce, Cf, Cg, Ch, Ci, Cj, Ck, Cl, Cm, Cn, Co, Cp, Cq, Cr, Cs, Ct, Cu, Cv, Cw, Cy, Cz, Da, Db, Dc, De, Df, Dg, Dh, Di, Dj, Dk, Dl, Dm, Dn, Option.map_some, Dp, Dq, Dr, Dt, Du, Dv, Dw, Dx, Dy, Dz, Ea, Eb, Ec, Ed, Ee, Ef, Eg, Eh, Ei, Ej, Ek, El, Em, Eo, Ep, Er, Es, Et, Eu, Ev, Ew, Ey, Ez, Fa, Fb, Fc, Fe, Ff, Fg, Fh, Fj, Fl, Fm, Fp, Fq, Fs, Ft, Fu, Fv, Fw, Fx, Fy, Fz, Ga, Gb, Gc, Gd, Ge, Gf, Gg, Gh, Gi, Gj, Nat.reduceEqDiff, Nat.reduceAdd, Nat.reduceMul, Nat.reduceLT, Nat.reduceLeDiff, ↓reduceIte, Ml, Mm, Nat.reduceBEq, Mn, Mo, Mp, Mq, reduceCtorEq, Mr, Ms, Gk, Gl, Gm, Gn, Gp, Gq, Gr, Gs, Gt, Gu, Gv, Gw, Gx, Gy, Gz, Ha, Hb, Hc, Hd, He, Hf, Hg, Hh, Hj, Hk, Hl, Hm, Hn, Ho, Hq, Hr, Hs, Ht, Hu, Hv, Hw, Hy, Hz, Ia, Ib, Ic, Ie, Ig, Ih, Ii, Ij, Ik, Il, Im, Io, Ip, Iq, Ir, Iu, Iv, Iw, Iy, Iz, Ja, Jb, Jc, Jd, Je, Jf, Jg, Jh, Ji, Jj, Jk, Jl, Jm, Jn, Jo, Jp, Jq, Jr, Js, Jt, Ju, Jv, Jw, Jy, Jz, Ka, Kb, Kc, Ke, Kf, Kg, Kh, Ki, Kj, Kk, Kl, Km, Kn, Ko, Kq, Kr, Ks, Kt, Ku, Kv, Kw, Kx, Ky, Kz, La, Lb, Lc, Ld, Le, Lf, Lg, Lh, Li, Lj, Ll, Lm, Ln, Lp, and_self, true_and, and_true, Mt, Mu, Mv, Mw, Mx, My, Mz, Na, Nb, Nc, Nd, Nf, Ng, Nh, Int.reduceToNat, Int.reduceLT, Int.reduceEq, Int.reduceLE, List.getElem?_cons_zero, List.getElem?_cons_succ, Lr, Ls, Lt, Ni, Nj, Nk, Nl, gt_iff_lt, ge_iff_le, Lu, Lv, Lw, Lx, Ly, Ma, Nn, Np, Mb, Mc, Md, Me, Mf, Mg, Mh, Mi, Mj, Mk, Nq, Nr, hw, hc, decide_false, splG]
  | succ m ih =>
    intro k h1 h2 h3
    have hw : IntKind.i64.wrap ((n : Int) - k) = (n : Int) - k := wrap_i64 (by omega) (by omega)
    rw [splG]
    by_cases hc : k + k < n
    · have hc' : (k : Int) < (n : Int) - k := by omega
      have hw2 : IntKind.i64.wrap ((k : Int) * 2) = ((k * 2 : Nat) : Int) := by
        rw [show (k : Int) * 2 = ((k * 2 : Nat) : Int) by omega]
        exact wrap_i64 (by omega) (by omega)
      have ih' := ih (k * 2) (by omega) (by omega) (by omega)
      rw [if_pos hc, loopR]
      conv => lhs; arg 3; arg 1; rw [l243_0]
      simp only [Aa, Ab, Ac, Ad, Ae, Af, Ag, Ah, Ai, Aj, Ak, Al, Am, Ao, Ap, Aq, Ar, Au, Av, Aw, Ay, Az, Ba, Bb, Bc, Bd, Be, Bf, Bg, Bh, Bi, Bj, Bk, Bl, Bm, Bn, Bo, Bp, Bq, Br, Bs, Bt, Bv, Bw, Bx, Bz, Ca, Cb, Cc, Cd, Ce, Cf, Cg, Ch, Ci, Cj, Ck, Cl, Cm, Cn, Co, Cp, Cq, Cr, Cs, Ct, Cu, Cv, Cw, Cy, Cz, Da, Db, Dc, De, Df, Dg, Dh, Di, Dj, Dk, Dl, Dm, Dn, Option.map_some, Dp, Dq, Dr, Dt, Du, Dv, Dw, Dx, Dy, Dz, Ea, Eb, Ec, Ed, Ee, Ef, Eg, Eh, Ei, Ej, Ek, El, Em, Eo, Ep, Er, Es, Et, Eu, Ev, Ew, Ey, Ez, Fa, Fb, Fc, Fe, Ff, Fg, Fh, Fj, Fl, Fm, Fp, Fq, Fs, Ft, Fu, Fv, Fw, Fx, Fy, Fz, Ga, Gb, Gc, Gd, Ge, Gf, Gg, Gh, Gi, Gj, Nat.reduceEqDiff, Nat.reduceAdd, Nat.reduceMul, Nat.reduceLT, Nat.reduceLeDiff, ↓reduceIte, Ml, Mm, Nat.reduceBEq, Mn, Mo, Mp, Mq, reduceCtorEq, Mr, Ms, Gk, Gl, Gm, Gn, Gp, Gq, Gr, Gs, Gt, Gu, Gv, Gw, Gx, Gy, Gz, Ha, Hb, Hc, Hd, He, Hf, Hg, Hh, Hj, Hk, Hl, Hm, Hn, Ho, Hq, Hr, Hs, Ht, Hu, Hv, Hw, Hy, Hz, Ia, Ib, Ic, Ie, Ig, Ih, Ii, Ij, Ik, Il, Im, Io, Ip, Iq, Ir, Iu, Iv, Iw, Iy, Iz, Ja, Jb, Jc, Jd, Je, Jf, Jg, Jh, Ji, Jj, Jk, Jl, Jm, Jn, Jo, Jp, Jq, Jr, Js, Jt, Ju, Jv, Jw, Jy, Jz, Ka, Kb, Kc, Ke, Kf, Kg, Kh, Ki, Kj, Kk, Kl, Km, Kn, Ko, Kq, Kr, Ks, Kt, Ku, Kv, Kw, Kx, Ky, Kz, La, Lb, Lc, Ld, Le, Lf, Lg, Lh, Li, Lj, Ll, Lm, Ln, Lp, and_self, true_and, and_true, Mt, Mu, Mv, Mw, Mx, My, Mz, Na, Nb, Nc, Nd, Nf, Ng, Nh, Int.reduceToNat, Int.reduceLT, Int.reduceEq, Int.reduceLE, List.getElem?_cons_zero, List.getElem?_cons_succ, Lr, Ls, Lt, Ni, Nj, Nk, Nl, gt_iff_lt, ge_iff_le, Lu, Lv, Lw, Lx, Ly, Ma, Nn, Np, Mb, Mc, Md, Me, Mf, Mg, Mh, Mi, Mj, Mk, Nq, Nr, hw, hc', decide_true, hw2]
      exact ih'
    · have hc' : ¬ (k : Int) < (n : Int) - k := by omega
      rw [if_neg hc, loopR]
      conv => lhs; arg 3; arg 1; rw [l243_0]
      simp only [Aa, Ab, Ac, Ad, Ae, Af, Ag, Ah, Ai, Aj, Ak, Al, Am, Ao, Ap, Aq, Ar, Au, Av, Aw, Ay, Az, Ba, Bb, Bc, Bd, Be, Bf, Bg, Bh, Bi, Bj, Bk, Bl, Bm, Bn, Bo, Bp, Bq, Br, Bs, Bt, Bv, Bw, Bx, Bz, Ca, Cb, Cc, Cd, Ce, Cf, Cg, Ch, Ci, Cj, Ck, Cl, Cm, Cn, Co, Cp, Cq, Cr, Cs, Ct, Cu, Cv, Cw, Cy, Cz, Da, Db, Dc, De, Df, Dg, Dh, Di, Dj, Dk, Dl, Dm, Dn, Option.map_some, Dp, Dq, Dr, Dt, Du, Dv, Dw, Dx, Dy, Dz, Ea, Eb, Ec, Ed, Ee, Ef, Eg, Eh, Ei, Ej, Ek, El, Em, Eo, Ep, Er, Es, Et, Eu, Ev, Ew, Ey, Ez, Fa, Fb, Fc, Fe, Ff, Fg, Fh, Fj, Fl, Fm, Fp, Fq, Fs, Ft, Fu, Fv, Fw, Fx, Fy, Fz, Ga, Gb, Gc, Gd, Ge, Gf, Gg, Gh, Gi, Gj, Nat.reduceEqDiff, Nat.reduceAdd, Nat.reduceMul, Nat.reduceLT, Nat.reduceLeDiff, ↓reduceIte, Ml, Mm, Nat.reduceBEq, Mn, Mo, Mp, Mq, reduceCtorEq, Mr, Ms, Gk, Gl, Gm, Gn, Gp, Gq, Gr, Gs, Gt, Gu, Gv, Gw, Gx, Gy, Gz, Ha, Hb, Hc, Hd, He, Hf, Hg, Hh, Hj, Hk, Hl, Hm, Hn, Ho, Hq, Hr, Hs, Ht, Hu, Hv, Hw, Hy, Hz, Ia, Ib, Ic, Ie, Ig, Ih, Ii, Ij, Ik, Il, Im, Io, Ip, Iq, Ir, Iu, Iv, Iw, Iy, Iz, Ja, Jb, Jc, Jd, Je, Jf, Jg, Jh, Ji, Jj, Jk, Jl, Jm, Jn, Jo, Jp, Jq, Jr, Js, Jt, Ju, Jv, Jw, Jy, Jz, Ka, Kb, Kc, Ke, Kf, Kg, Kh, Ki, Kj, Kk, Kl, Km, Kn, Ko, Kq, Kr, Ks, Kt, Ku, Kv, Kw, Kx, Ky, Kz, La, Lb, Lc, Ld, Le, Lf, Lg, Lh, Li, Lj, Ll, Lm, Ln, Lp, and_self, true_and, and_true, Mt, Mu, Mv, Mw, Mx, My, Mz, Na, Nb, Nc, Nd, Nf, Ng, Nh, Int.reduceToNat, Int.reduceLT, Int.reduceEq, Int.reduceLE, List.getElem?_cons_zero, List.getElem?_cons_succ, Lr, Ls, Lt, Ni, Nj, Nk, Nl, gt_iff_lt, ge_iff_le, Lu, Lv, Lw, Lx, Ly, Ma, Nn, Np, Mb, Mc, Md, Me, Mf, Mg, Mh, Mi, Mj, Mk, Nq, Nr, hw, hc', decide_false]

theorem d_split243 {E : Env} (h243 : E 243 = some (.code c243)) (n : Nat) (hn : n ≤ 1000000) (hp : Hp) : deepE E (Call E) 243 [.int .i64 n] hp = some (.int .i64 (spl n)) := by
  rw [deep_code h243 rfl, deep_go]
  simp only [mapO_nil, mapO_cons, consO_some, snapA_int, goD_some]
  rw [Call_mk E h243 _ _ rfl]
  by_cases h : n < 2
  · have h' : (n : Int) < 2 := by omega
    simp only [Aa, Ab, Ac, Ad, Ae, Af, Ag, Ah, Ai, Aj, Ak, Al, Am, Ao, Ap, Aq, Ar, Au, Av, Aw, Ay, Az, Ba, Bb, Bc, Bd, Be, Bf, Bg, Bh, Bi, Bj, Bk, Bl, Bm, Bn, Bo, Bp, Bq, Br, Bs, Bt, Bv, Bw, Bx, Bz, Ca, Cb, Cc, Cd, Ce, Cf, Cg, Ch, Ci, Cj, Ck, Cl, Cm, Cn, Co, Cp, Cq, Cr, Cs, Ct, Cu, Cv, Cw, Cy, Cz, Da, Db, Dc, De, Df, Dg, Dh, Di, Dj, Dk, Dl, Dm, Dn, Option.map_some, Dp, Dq, Dr, Dt, Du, Dv, Dw, Dx, Dy, Dz, Ea, Eb, Ec, Ed, Ee, Ef, Eg, Eh, Ei, Ej, Ek, El, Em, Eo, Ep, Er, Es, Et, Eu, Ev, Ew, Ey, Ez, Fa, Fb, Fc, Fe, Ff, Fg, Fh, Fj, Fl, Fm, Fp, Fq, Fs, Ft, Fu, Fv, Fw, Fx, Fy, Fz, Ga, Gb, Gc, Gd, Ge, Gf, Gg, Gh, Gi, Gj, Nat.reduceEqDiff, Nat.reduceAdd, Nat.reduceMul, Nat.reduceLT, Nat.reduceLeDiff, ↓reduceIte, Ml, Mm, Nat.reduceBEq, Mn, Mo, Mp, Mq, reduceCtorEq, Mr, Ms, Gk, Gl, Gm, Gn, Gp, Gq, Gr, Gs, Gt, Gu, Gv, Gw, Gx, Gy, Gz, Ha, Hb, Hc, Hd, He, Hf, Hg, Hh, Hj, Hk, Hl, Hm, Hn, Ho, Hq, Hr, Hs, Ht, Hu, Hv, Hw, Hy, Hz, Ia, Ib, Ic, Ie, Ig, Ih, Ii, Ij, Ik, Il, Im, Io, Ip, Iq, Ir, Iu, Iv, Iw, Iy, Iz, Ja, Jb, Jc, Jd, Je, Jf, Jg, Jh, Ji, Jj, Jk, Jl, Jm, Jn, Jo, Jp, Jq, Jr, Js, Jt, Ju, Jv, Jw, Jy, Jz, Ka, Kb, Kc, Ke, Kf, Kg, Kh, Ki, Kj, Kk, Kl, Km, Kn, Ko, Kq, Kr, Ks, Kt, Ku, Kv, Kw, Kx, Ky, Kz, La, Lb, Lc, Ld, Le, Lf, Lg, Lh, Li, Lj, Ll, Lm, Ln, Lp, and_self, true_and, and_true, Mt, Mu, Mv, Mw, Mx, My, Mz, Na, Nb, Nc, Nd, Nf, Ng, Nh, Int.reduceToNat, Int.reduceLT, Int.reduceEq, Int.reduceLE, List.getElem?_cons_zero, List.getElem?_cons_succ, Lr, Ls, Lt, Ni, Nj, Nk, Nl, gt_iff_lt, ge_iff_le, Lu, Lv, Lw, Lx, Ly, Ma, Nn, Np, Mb, Mc, Md, Me, Mf, Mg, Mh, Mi, Mj, Mk, Nq, Nr, h', decide_true, spl, h, if_true, Int.cast_ofNat_Int]
  · have h' : ¬ (n : Int) < 2 := by omega
    have hl := loop243 (E := E) n hn n 1 (by omega) (by omega) (by omega)
    simp only [Int.cast_ofNat_Int] at hl
    simp only [Aa, Ab, Ac, Ad, Ae, Af, Ag, Ah, Ai, Aj, Ak, Al, Am, Ao, Ap, Aq, Ar, Au, Av, Aw, Ay, Az, Ba, Bb, Bc, Bd, Be, Bf, Bg, Bh, Bi, Bj, Bk, Bl, Bm, Bn, Bo, Bp, Bq, Br, Bs, Bt, Bv, Bw, Bx, Bz, Ca, Cb, Cc, Cd, Ce, Cf, Cg, Ch, Ci, Cj, Ck, Cl, Cm, Cn, Co, Cp, Cq, Cr, Cs, Ct, Cu, Cv, Cw, Cy, Cz, Da, Db, Dc, De, Df, Dg, Dh, Di, Dj, Dk, Dl, Dm, Dn, Option.map_some, Dp, Dq, Dr, Dt, Du, Dv, Dw, Dx, Dy, Dz, Ea, Eb, Ec, Ed, Ee, Ef, Eg, Eh, Ei, Ej, Ek, El, Em, Eo, Ep, Er, Es, Et, Eu, Ev, Ew, Ey, Ez, Fa, Fb, Fc, Fe, Ff, Fg, Fh, Fj, Fl, Fm, Fp, Fq, Fs, Ft, Fu, Fv, Fw, Fx, Fy, Fz, Ga, Gb, Gc, Gd, Ge, Gf, Gg, Gh, Gi, Gj, Nat.reduceEqDiff, Nat.reduceAdd, Nat.reduceMul, Nat.reduceLT, Nat.reduceLeDiff, ↓reduceIte, Ml, Mm, Nat.reduceBEq, Mn, Mo, Mp, Mq, reduceCtorEq, Mr, Ms, Gk, Gl, Gm, Gn, Gp, Gq, Gr, Gs, Gt, Gu, Gv, Gw, Gx, Gy, Gz, Ha, Hb, Hc, Hd, He, Hf, Hg, Hh, Hj, Hk, Hl, Hm, Hn, Ho, Hq, Hr, Hs, Ht, Hu, Hv, Hw, Hy, Hz, Ia, Ib, Ic, Ie, Ig, Ih, Ii, Ij, Ik, Il, Im, Io, Ip, Iq, Ir, Iu, Iv, Iw, Iy, Iz, Ja, Jb, Jc, Jd, Je, Jf, Jg, Jh, Ji, Jj, Jk, Jl, Jm, Jn, Jo, Jp, Jq, Jr, Js, Jt, Ju, Jv, Jw, Jy, Jz, Ka, Kb, Kc, Ke, Kf, Kg, Kh, Ki, Kj, Kk, Kl, Km, Kn, Ko, Kq, Kr, Ks, Kt, Ku, Kv, Kw, Kx, Ky, Kz, La, Lb, Lc, Ld, Le, Lf, Lg, Lh, Li, Lj, Ll, Lm, Ln, Lp, and_self, true_and, and_true, Mt, Mu, Mv, Mw, Mx, My, Mz, Na, Nb, Nc, Nd, Nf, Ng, Nh, Int.reduceToNat, Int.reduceLT, Int.reduceEq, Int.reduceLE, List.getElem?_cons_zero, List.getElem?_cons_succ, Lr, Ls, Lt, Ni, Nj, Nk, Nl, gt_iff_lt, ge_iff_le, Lu, Lv, Lw, Lx, Ly, Ma, Nn, Np, Mb, Mc, Md, Me, Mf, Mg, Mh, Mi, Mj, Mk, Nq, Nr, h', decide_false]
    rw [hl]
    simp only [Aa, Ab, Ac, Ad, Ae, Af, Ag, Ah, Ai, Aj, Ak, Al, Am, Ao, Ap, Aq, Ar, Au, Av, Aw, Ay, Az, Ba, Bb, Bc, Bd, Be, Bf, Bg, Bh, Bi, Bj, Bk, Bl, Bm, Bn, Bo, Bp, Bq, Br, Bs, Bt, Bv, Bw, Bx, Bz, Ca, Cb, Cc, Cd, Ce, Cf, Cg, Ch, Ci, Cj, Ck, Cl, Cm, Cn, Co, Cp, Cq, Cr, Cs, Ct, Cu, Cv, Cw, Cy, Cz, Da, Db, Dc, De, Df, Dg, Dh, Di, Dj, Dk, Dl, Dm, Dn, Option.map_some, Dp, Dq, Dr, Dt, Du, Dv, Dw, Dx, Dy, Dz, Ea, Eb, Ec, Ed, Ee, Ef, Eg, Eh, Ei, Ej, Ek, El, Em, Eo, Ep, Er, Es, Et, Eu, Ev, Ew, Ey, Ez, Fa, Fb, Fc, Fe, Ff, Fg, Fh, Fj, Fl, Fm, Fp, Fq, Fs, Ft, Fu, Fv, Fw, Fx, Fy, Fz, Ga, Gb, Gc, Gd, Ge, Gf, Gg, Gh, Gi, Gj, Nat.reduceEqDiff, Nat.reduceAdd, Nat.reduceMul, Nat.reduceLT, Nat.reduceLeDiff, ↓reduceIte, Ml, Mm, Nat.reduceBEq, Mn, Mo, Mp, Mq, reduceCtorEq, Mr, Ms, Gk, Gl, Gm, Gn, Gp, Gq, Gr, Gs, Gt, Gu, Gv, Gw, Gx, Gy, Gz, Ha, Hb, Hc, Hd, He, Hf, Hg, Hh, Hj, Hk, Hl, Hm, Hn, Ho, Hq, Hr, Hs, Ht, Hu, Hv, Hw, Hy, Hz, Ia, Ib, Ic, Ie, Ig, Ih, Ii, Ij, Ik, Il, Im, Io, Ip, Iq, Ir, Iu, Iv, Iw, Iy, Iz, Ja, Jb, Jc, Jd, Je, Jf, Jg, Jh, Ji, Jj, Jk, Jl, Jm, Jn, Jo, Jp, Jq, Jr, Js, Jt, Ju, Jv, Jw, Jy, Jz, Ka, Kb, Kc, Ke, Kf, Kg, Kh, Ki, Kj, Kk, Kl, Km, Kn, Ko, Kq, Kr, Ks, Kt, Ku, Kv, Kw, Kx, Ky, Kz, La, Lb, Lc, Ld, Le, Lf, Lg, Lh, Li, Lj, Ll, Lm, Ln, Lp, and_self, true_and, and_true, Mt, Mu, Mv, Mw, Mx, My, Mz, Na, Nb, Nc, Nd, Nf, Ng, Nh, Int.reduceToNat, Int.reduceLT, Int.reduceEq, Int.reduceLE, List.getElem?_cons_zero, List.getElem?_cons_succ, Lr, Ls, Lt, Ni, Nj, Nk, Nl, gt_iff_lt, ge_iff_le, Lu, Lv, Lw, Lx, Ly, Ma, Nn, Np, Mb, Mc, Md, Me, Mf, Mg, Mh, Mi, Mj, Mk, Nq, Nr, spl, h, if_false]

/-- A root. -/
def rootQ : Nat → List Q → Q
  | 0, _ => words 2 []
  | _, [] => words 2 []
  | _, [x] => leafQ x
  | m + 1, l => joinQ (rootQ m (l.take (spl l.length))) (rootQ m (l.drop (spl l.length)))

theorem d_root239 {E : Env} (W : HasW E) (h238 : E 238 = some (.code c238)) (h243 : E 243 = some (.code c243)) (h239 : E 239 = some (.code c239)) : ∀ (m : Nat) (f p : Bool) (l : List Q) (hp : Hp), l.length ≤ m → l.length ≤ 1000000 →
    deepE E (Call E) 239 [.list f p (dS l)] hp = some (rootQ m l).s := by
  intro m
  induction m with
  | zero =>
    intro f p l hp hl _
    obtain rfl : l = [] := List.eq_nil_of_length_eq_zero (by omega)
    have hw := fun hp => d_words14 W.e25 W.e9 W.e14 2 true true [] (by simp) hp
    rw [deep_code h239 rfl, deep_go]
    simp only [mapO_nil, mapO_cons, consO_some, snapA_list, goD_some]
    rw [Call_mk E h239 _ _ rfl]
    rw [show u32s [] = [] from rfl] at hw
    simp only [Aa, Ab, Ac, Ad, Ae, Af, Ag, Ah, Ai, Aj, Ak, Al, Am, Ao, Ap, Aq, Ar, Au, Av, Aw, Ay, Az, Ba, Bb, Bc, Bd, Be, Bf, Bg, Bh, Bi, Bj, Bk, Bl, Bm, Bn, Bo, Bp, Bq, Br, Bs, Bt, Bv, Bw, Bx, Bz, Ca, Cb, Cc, Cd, Ce, Cf, Cg, Ch, Ci, Cj, Ck, Cl, Cm, Cn, Co, Cp, Cq, Cr, Cs, Ct, Cu, Cv, Cw, Cy, Cz, Da, Db, Dc, De, Df, Dg, Dh, Di, Dj, Dk, Dl, Dm, Dn, Option.map_some, Dp, Dq, Dr, Dt, Du, Dv, Dw, Dx, Dy, Dz, Ea, Eb, Ec, Ed, Ee, Ef, Eg, Eh, Ei, Ej, Ek, El, Em, Eo, Ep, Er, Es, Et, Eu, Ev, Ew, Ey, Ez, Fa, Fb, Fc, Fe, Ff, Fg, Fh, Fj, Fl, Fm, Fp, Fq, Fs, Ft, Fu, Fv, Fw, Fx, Fy, Fz, Ga, Gb, Gc, Gd, Ge, Gf, Gg, Gh, Gi, Gj, Nat.reduceEqDiff, Nat.reduceAdd, Nat.reduceMul, Nat.reduceLT, Nat.reduceLeDiff, ↓reduceIte, Ml, Mm, Nat.reduceBEq, Mn, Mo, Mp, Mq, reduceCtorEq, Mr, Ms, Gk, Gl, Gm, Gn, Gp, Gq, Gr, Gs, Gt, Gu, Gv, Gw, Gx, Gy, Gz, Ha, Hb, Hc, Hd, He, Hf, Hg, Hh, Hj, Hk, Hl, Hm, Hn, Ho, Hq, Hr, Hs, Ht, Hu, Hv, Hw, Hy, Hz, Ia, Ib, Ic, Ie, Ig, Ih, Ii, Ij, Ik, Il, Im, Io, Ip, Iq, Ir, Iu, Iv, Iw, Iy, Iz, Ja, Jb, Jc, Jd, Je, Jf, Jg, Jh, Ji, Jj, Jk, Jl, Jm, Jn, Jo, Jp, Jq, Jr, Js, Jt, Ju, Jv, Jw, Jy, Jz, Ka, Kb, Kc, Ke, Kf, Kg, Kh, Ki, Kj, Kk, Kl, Km, Kn, Ko, Kq, Kr, Ks, Kt, Ku, Kv, Kw, Kx, Ky, Kz, La, Lb, Lc, Ld, Le, Lf, Lg, Lh, Li, Lj, Ll, Lm, Ln, Lp, and_self, true_and, and_true, Mt, Mu, Mv, Mw, Mx, My, Mz, Na, Nb, Nc, Nd, Nf, Ng, Nh, Int.reduceToNat, Int.reduceLT, Int.reduceEq, Int.reduceLE, List.getElem?_cons_zero, List.getElem?_cons_succ, Lr, Ls, Lt, Ni, Nj, Nk, Nl, gt_iff_lt, ge_iff_le, Lu, Lv, Lw, Lx, Ly, Ma, Nn, Np, Mb, Mc, Md, Me, Mf, Mg, Mh, Mi, Mj, Mk, Nq, Nr, dS, List.map_nil, op_call_deep _ _ W.e14 rfl, hw, decide_true, Int.cast_ofNat_Int, Q.s, rootQ]
  | succ m ih =>
    intro f p l hp hl hb
    rw [deep_code h239 rfl, deep_go]
    simp only [mapO_nil, mapO_cons, consO_some, snapA_list, goD_some]
    rw [Call_mk E h239 _ _ rfl]
    match l, hl, hb with
    | [], _, _ =>
      have hw := fun hp => d_words14 W.e25 W.e9 W.e14 2 true true [] (by simp) hp
      rw [show u32s [] = [] from rfl] at hw
      simp only [Aa, Ab, Ac, Ad, Ae, Af, Ag, Ah, Ai, Aj, Ak, Al, Am, Ao, Ap, Aq, Ar, Au, Av, Aw, Ay, Az, Ba, Bb, Bc, Bd, Be, Bf, Bg, Bh, Bi, Bj, Bk, Bl, Bm, Bn, Bo, Bp, Bq, Br, Bs, Bt, Bv, Bw, Bx, Bz, Ca, Cb, Cc, Cd, Ce, Cf, Cg, Ch, Ci, Cj, Ck, Cl, Cm, Cn, Co, Cp, Cq, Cr, Cs, Ct, Cu, Cv, Cw, Cy, Cz, Da, Db, Dc, De, Df, Dg, Dh, Di, Dj, Dk, Dl, Dm, Dn, Option.map_some, Dp, Dq, Dr, Dt, Du, Dv, Dw, Dx, Dy, Dz, Ea, Eb, Ec, Ed, Ee, Ef, Eg, Eh, Ei, Ej, Ek, El, Em, Eo, Ep, Er, Es, Et, Eu, Ev, Ew, Ey, Ez, Fa, Fb, Fc, Fe, Ff, Fg, Fh, Fj, Fl, Fm, Fp, Fq, Fs, Ft, Fu, Fv, Fw, Fx, Fy, Fz, Ga, Gb, Gc, Gd, Ge, Gf, Gg, Gh, Gi, Gj, Nat.reduceEqDiff, Nat.reduceAdd, Nat.reduceMul, Nat.reduceLT, Nat.reduceLeDiff, ↓reduceIte, Ml, Mm, Nat.reduceBEq, Mn, Mo, Mp, Mq, reduceCtorEq, Mr, Ms, Gk, Gl, Gm, Gn, Gp, Gq, Gr, Gs, Gt, Gu, Gv, Gw, Gx, Gy, Gz, Ha, Hb, Hc, Hd, He, Hf, Hg, Hh, Hj, Hk, Hl, Hm, Hn, Ho, Hq, Hr, Hs, Ht, Hu, Hv, Hw, Hy, Hz, Ia, Ib, Ic, Ie, Ig, Ih, Ii, Ij, Ik, Il, Im, Io, Ip, Iq, Ir, Iu, Iv, Iw, Iy, Iz, Ja, Jb, Jc, Jd, Je, Jf, Jg, Jh, Ji, Jj, Jk, Jl, Jm, Jn, Jo, Jp, Jq, Jr, Js, Jt, Ju, Jv, Jw, Jy, Jz, Ka, Kb, Kc, Ke, Kf, Kg, Kh, Ki, Kj, Kk, Kl, Km, Kn, Ko, Kq, Kr, Ks, Kt, Ku, Kv, Kw, Kx, Ky, Kz, La, Lb, Lc, Ld, Le, Lf, Lg, Lh, Li, Lj, Ll, Lm, Ln, Lp, and_self, true_and, and_true, Mt, Mu, Mv, Mw, Mx, My, Mz, Na, Nb, Nc, Nd, Nf, Ng, Nh, Int.reduceToNat, Int.reduceLT, Int.reduceEq, Int.reduceLE, List.getElem?_cons_zero, List.getElem?_cons_succ, Lr, Ls, Lt, Ni, Nj, Nk, Nl, gt_iff_lt, ge_iff_le, Lu, Lv, Lw, Lx, Ly, Ma, Nn, Np, Mb, Mc, Md, Me, Mf, Mg, Mh, Mi, Mj, Mk, Nq, Nr, dS, List.map_nil, op_call_deep _ _ W.e14 rfl, hw, decide_true, Int.cast_ofNat_Int, Q.s, rootQ]
    | [x], _, _ =>
      have hq := fun hp => d_leaf238 W h238 x hp
      simp only [Q.s] at hq
      have h1 : ¬ ((1 : Int) = 0) := by decide
      simp only [Aa, Ab, Ac, Ad, Ae, Af, Ag, Ah, Ai, Aj, Ak, Al, Am, Ao, Ap, Aq, Ar, Au, Av, Aw, Ay, Az, Ba, Bb, Bc, Bd, Be, Bf, Bg, Bh, Bi, Bj, Bk, Bl, Bm, Bn, Bo, Bp, Bq, Br, Bs, Bt, Bv, Bw, Bx, Bz, Ca, Cb, Cc, Cd, Ce, Cf, Cg, Ch, Ci, Cj, Ck, Cl, Cm, Cn, Co, Cp, Cq, Cr, Cs, Ct, Cu, Cv, Cw, Cy, Cz, Da, Db, Dc, De, Df, Dg, Dh, Di, Dj, Dk, Dl, Dm, Dn, Option.map_some, Dp, Dq, Dr, Dt, Du, Dv, Dw, Dx, Dy, Dz, Ea, Eb, Ec, Ed, Ee, Ef, Eg, Eh, Ei, Ej, Ek, El, Em, Eo, Ep, Er, Es, Et, Eu, Ev, Ew, Ey, Ez, Fa, Fb, Fc, Fe, Ff, Fg, Fh, Fj, Fl, Fm, Fp, Fq, Fs, Ft, Fu, Fv, Fw, Fx, Fy, Fz, Ga, Gb, Gc, Gd, Ge, Gf, Gg, Gh, Gi, Gj, Nat.reduceEqDiff, Nat.reduceAdd, Nat.reduceMul, Nat.reduceLT, Nat.reduceLeDiff, ↓reduceIte, Ml, Mm, Nat.reduceBEq, Mn, Mo, Mp, Mq, reduceCtorEq, Mr, Ms, Gk, Gl, Gm, Gn, Gp, Gq, Gr, Gs, Gt, Gu, Gv, Gw, Gx, Gy, Gz, Ha, Hb, Hc, Hd, He, Hf, Hg, Hh, Hj, Hk, Hl, Hm, Hn, Ho, Hq, Hr, Hs, Ht, Hu, Hv, Hw, Hy, Hz, Ia, Ib, Ic, Ie, Ig, Ih, Ii, Ij, Ik, Il, Im, Io, Ip, Iq, Ir, Iu, Iv, Iw, Iy, Iz, Ja, Jb, Jc, Jd, Je, Jf, Jg, Jh, Ji, Jj, Jk, Jl, Jm, Jn, Jo, Jp, Jq, Jr, Js, Jt, Ju, Jv, Jw, Jy, Jz, Ka, Kb, Kc, Ke, Kf, Kg, Kh, Ki, Kj, Kk, Kl, Km, Kn, Ko, Kq, Kr, Ks, Kt, Ku, Kv, Kw, Kx, Ky, Kz, La, Lb, Lc, Ld, Le, Lf, Lg, Lh, Li, Lj, Ll, Lm, Ln, Lp, and_self, true_and, and_true, Mt, Mu, Mv, Mw, Mx, My, Mz, Na, Nb, Nc, Nd, Nf, Ng, Nh, Int.reduceToNat, Int.reduceLT, Int.reduceEq, Int.reduceLE, List.getElem?_cons_zero, List.getElem?_cons_succ, Lr, Ls, Lt, Ni, Nj, Nk, Nl, gt_iff_lt, ge_iff_le, Lu, Lv, Lw, Lx, Ly, Ma, Nn, Np, Mb, Mc, Md, Me, Mf, Mg, Mh, Mi, Mj, Mk, Nq, Nr, dS, List.map_nil, List.map_cons, op_call_deep _ _ h238 rfl, hq, decide_true, decide_false, Int.cast_ofNat_Int, Q.s, rootQ, h1]
    | x :: y :: r, hl, hb =>
      generalize hL : x :: y :: r = L at hl hb ⊢
      have hlen : 2 ≤ L.length := by rw [← hL]; simp
      have h0 : ¬ ((L.length : Int) = 0) := by omega
      have h1 : ¬ ((L.length : Int) = 1) := by omega
      obtain ⟨b1, b2, b3⟩ := spl_bd hlen
      have hs := fun hp => d_split243 h243 L.length hb hp
      have hr1 := fun f p hp => ih f p (L.take (spl L.length)) hp (by simp; omega) (by simp; omega)
      have hr2 := fun f p hp => ih f p (L.drop (spl L.length)) hp (by simp; omega) (by simp; omega)
      have hj := fun (x y : Q) hp => d_join19 W.e25 W.e9 W.e14 W.e19 x.a x.b x.c x.d y.a y.b y.c y.d hp
      have s1 : ∀ vars hp, sliceV vars hp (some 4) (.list f p (dS L)) none (some (.int .i64 (spl L.length : Nat))) = some (.list (f && spl L.length == L.length) p (dS (L.take (spl L.length)))) := by
        intro vars hp
        simp [sliceV, sliceR, bnd, dS_esz, dS_len, dS_take]
        omega
      have s2 : ∀ vars hp, sliceV vars hp (some 4) (.list f p (dS L)) (some (.int .i64 (spl L.length : Nat))) none = some (.list (f && L.length == L.length) p (dS (L.drop (spl L.length)))) := by
        intro vars hp
        have ht : List.take L.length (dS L) = dS L := by rw [← dS_len L, List.take_length]
        have hle : spl L.length ≤ L.length := by omega
        simp [sliceV, sliceR, bnd, dS_esz, dS_len, ht, hle, dS_drop]
      have hroot : rootQ (m + 1) L = joinQ (rootQ m (L.take (spl L.length))) (rootQ m (L.drop (spl L.length))) := by rw [← hL]; rfl
      rw [hroot]
      simp only [Q.s] at hr1 hr2 hj
      simp only [Aa, Ab, Ac, Ad, Ae, Af, Ag, Ah, Ai, Aj, Ak, Al, Am, Ao, Ap, Aq, Ar, Au, Av, Aw, Ay, Az, Ba, Bb, Bc, Bd, Be, Bf, Bg, Bh, Bi, Bj, Bk, Bl, Bm, Bn, Bo, Bp, Bq, Br, Bs, Bt, Bv, Bw, Bx, Bz, Ca, Cb, Cc, Cd, Ce, Cf, Cg, Ch, Ci, Cj, Ck, Cl, Cm, Cn, Co, Cp, Cq, Cr, Cs, Ct, Cu, Cv, Cw, Cy, Cz, Da, Db, Dc, De, Df, Dg, Dh, Di, Dj, Dk, Dl, Dm, Dn, Option.map_some, Dp, Dq, Dr, Dt, Du, Dv, Dw, Dx, Dy, Dz, Ea, Eb, Ec, Ed, Ee, Ef, Eg, Eh, Ei, Ej, Ek, El, Em, Eo, Ep, Er, Es, Et, Eu, Ev, Ew, Ey, Ez, Fa, Fb, Fc, Fe, Ff, Fg, Fh, Fj, Fl, Fm, Fp, Fq, Fs, Ft, Fu, Fv, Fw, Fx, Fy, Fz, Ga, Gb, Gc, Gd, Ge, Gf, Gg, Gh, Gi, Gj, Nat.reduceEqDiff, Nat.reduceAdd, Nat.reduceMul, Nat.reduceLT, Nat.reduceLeDiff, ↓reduceIte, Ml, Mm, Nat.reduceBEq, Mn, Mo, Mp, Mq, reduceCtorEq, Mr, Ms, Gk, Gl, Gm, Gn, Gp, Gq, Gr, Gs, Gt, Gu, Gv, Gw, Gx, Gy, Gz, Ha, Hb, Hc, Hd, He, Hf, Hg, Hh, Hj, Hk, Hl, Hm, Hn, Ho, Hq, Hr, Hs, Ht, Hu, Hv, Hw, Hy, Hz, Ia, Ib, Ic, Ie, Ig, Ih, Ii, Ij, Ik, Il, Im, Io, Ip, Iq, Ir, Iu, Iv, Iw, Iy, Iz, Ja, Jb, Jc, Jd, Je, Jf, Jg, Jh, Ji, Jj, Jk, Jl, Jm, Jn, Jo, Jp, Jq, Jr, Js, Jt, Ju, Jv, Jw, Jy, Jz, Ka, Kb, Kc, Ke, Kf, Kg, Kh, Ki, Kj, Kk, Kl, Km, Kn, Ko, Kq, Kr, Ks, Kt, Ku, Kv, Kw, Kx, Ky, Kz, La, Lb, Lc, Ld, Le, Lf, Lg, Lh, Li, Lj, Ll, Lm, Ln, Lp, and_self, true_and, and_true, Mt, Mu, Mv, Mw, Mx, My, Mz, Na, Nb, Nc, Nd, Nf, Ng, Nh, Int.reduceToNat, Int.reduceLT, Int.reduceEq, Int.reduceLE, List.getElem?_cons_zero, List.getElem?_cons_succ, Lr, Ls, Lt, Ni, Nj, Nk, Nl, gt_iff_lt, ge_iff_le, Lu, Lv, Lw, Lx, Ly, Ma, Nn, Np, Mb, Mc, Md, Me, Mf, Mg, Mh, Mi, Mj, Mk, Nq, Nr, dS_len, h0, h1, decide_false, op_call_deep _ _ h243 rfl, hs, rd239_0 E (deepB_code W.e19 rfl) (deepB_code h239 rfl), d239_0, s1, s2, op_call_deep _ _ h239 rfl, hr1, hr2, op_call_deep _ _ W.e19 rfl, hj, Q.s, joinQ]

/-! The reference. -/
theorem d_leaf241 {E : Env} (W : HasW E) (h241 : E 241 = some (.code c241)) (q : Q) (hp : Hp) : deepE E (Call E) 241 [q.s] hp = some (leafQ q).s := by
  rw [deep_code h241 rfl, deep_go]
  simp only [Q.s, mapO_nil, mapO_cons, consO_some, snapA_agg, snapC_int, aggO_some, goD_some]
  rw [Call_mk E h241 _ _ rfl]
  have hw := own4 (E := E) q 0 (i := 12) (fun l fl pr hp hl => d_words12 W.e26 W.e13 W.e12 0 fl pr l hl hp) W.e12 rfl [.rows false 1 [.int .u32 q.a, .int .u32 q.b, .int .u32 q.c, .int .u32 q.d]] 0 false rfl
  simp only [Aa, Ab, Ac, Ad, Ae, Af, Ag, Ah, Ai, Aj, Ak, Al, Am, Ao, Ap, Aq, Ar, Au, Av, Aw, Ay, Az, Ba, Bb, Bc, Bd, Be, Bf, Bg, Bh, Bi, Bj, Bk, Bl, Bm, Bn, Bo, Bp, Bq, Br, Bs, Bt, Bv, Bw, Bx, Bz, Ca, Cb, Cc, Cd, Ce, Cf, Cg, Ch, Ci, Cj, Ck, Cl, Cm, Cn, Co, Cp, Cq, Cr, Cs, Ct, Cu, Cv, Cw, Cy, Cz, Da, Db, Dc, De, Df, Dg, Dh, Di, Dj, Dk, Dl, Dm, Dn, Option.map_some, Dp, Dq, Dr, Dt, Du, Dv, Dw, Dx, Dy, Dz, Ea, Eb, Ec, Ed, Ee, Ef, Eg, Eh, Ei, Ej, Ek, El, Em, Eo, Ep, Er, Es, Et, Eu, Ev, Ew, Ey, Ez, Fa, Fb, Fc, Fe, Ff, Fg, Fh, Fj, Fl, Fm, Fp, Fq, Fs, Ft, Fu, Fv, Fw, Fx, Fy, Fz, Ga, Gb, Gc, Gd, Ge, Gf, Gg, Gh, Gi, Gj, Nat.reduceEqDiff, Nat.reduceAdd, Nat.reduceMul, Nat.reduceLT, Nat.reduceLeDiff, ↓reduceIte, Ml, Mm, Nat.reduceBEq, Mn, Mo, Mp, Mq, reduceCtorEq, Mr, Ms, Gk, Gl, Gm, Gn, Gp, Gq, Gr, Gs, Gt, Gu, Gv, Gw, Gx, Gy, Gz, Ha, Hb, Hc, Hd, He, Hf, Hg, Hh, Hj, Hk, Hl, Hm, Hn, Ho, Hq, Hr, Hs, Ht, Hu, Hv, Hw, Hy, Hz, Ia, Ib, Ic, Ie, Ig, Ih, Ii, Ij, Ik, Il, Im, Io, Ip, Iq, Ir, Iu, Iv, Iw, Iy, Iz, Ja, Jb, Jc, Jd, Je, Jf, Jg, Jh, Ji, Jj, Jk, Jl, Jm, Jn, Jo, Jp, Jq, Jr, Js, Jt, Ju, Jv, Jw, Jy, Jz, Ka, Kb, Kc, Ke, Kf, Kg, Kh, Ki, Kj, Kk, Kl, Km, Kn, Ko, Kq, Kr, Ks, Kt, Ku, Kv, Kw, Kx, Ky, Kz, La, Lb, Lc, Ld, Le, Lf, Lg, Lh, Li, Lj, Ll, Lm, Ln, Lp, and_self, true_and, and_true, Mt, Mu, Mv, Mw, Mx, My, Mz, Na, Nb, Nc, Nd, Nf, Ng, Nh, Int.reduceToNat, Int.reduceLT, Int.reduceEq, Int.reduceLE, List.getElem?_cons_zero, List.getElem?_cons_succ, Lr, Ls, Lt, Ni, Nj, Nk, Nl, gt_iff_lt, ge_iff_le, Lu, Lv, Lw, Lx, Ly, Ma, Nn, Np, Mb, Mc, Md, Me, Mf, Mg, Mh, Mi, Mj, Mk, Nq, Nr, chunks_succ, chunks_zero, List.cons_append, List.nil_append, asliceV, bnd, Nat.sub_zero, op_call_deep _ _ W.e12 rfl, hw, Q.s, leafQ]

theorem loop251 {E : Env} (n : Nat) (hn : n ≤ 1000000) : ∀ (m k : Nat), n ≤ m + k → 1 ≤ k → k ≤ 1000000 →
    blockR 0 [3] (loopR E [0, 3] l251_0 ⟨[(0, .int .i64 n), (3, .int .i64 k)], [], []⟩) = some (.norm, ⟨[(3, .int .i64 (splG m k n))], [], []⟩) := by
  intro m
  induction m with
  | zero =>
    intro k h1 h2 h3
    have hw : IntKind.i64.wrap ((n : Int) - k) = (n : Int) - k := wrap_i64 (by omega) (by omega)
    have hc : ¬ (k : Int) < (n : Int) - k := by omega
    rw [loopR]
    conv => lhs; arg 3; arg 1; rw [l251_0]
    simp only [Aa, Ab, Ac, Ad, Ae, Af, Ag, Ah, Ai, Aj, Ak, Al, Am, Ao, Ap, Aq, Ar, Au, Av, Aw, Ay, Az, Ba, Bb, Bc, Bd, Be, Bf, Bg, Bh, Bi, Bj, Bk, Bl, Bm, Bn, Bo, Bp, Bq, Br, Bs, Bt, Bv, Bw, Bx, Bz, Ca, Cb, Cc, Cd, Ce, Cf, Cg, Ch, Ci, Cj, Ck, Cl, Cm, Cn, Co, Cp, Cq, Cr, Cs, Ct, Cu, Cv, Cw, Cy, Cz, Da, Db, Dc, De, Df, Dg, Dh, Di, Dj, Dk, Dl, Dm, Dn, Option.map_some, Dp, Dq, Dr, Dt, Du, Dv, Dw, Dx, Dy, Dz, Ea, Eb, Ec, Ed, Ee, Ef, Eg, Eh, Ei, Ej, Ek, El, Em, Eo, Ep, Er, Es, Et, Eu, Ev, Ew, Ey, Ez, Fa, Fb, Fc, Fe, Ff, Fg, Fh, Fj, Fl, Fm, Fp, Fq, Fs, Ft, Fu, Fv, Fw, Fx, Fy, Fz, Ga, Gb, Gc, Gd, Ge, Gf, Gg, Gh, Gi, Gj, Nat.reduceEqDiff, Nat.reduceAdd, Nat.reduceMul, Nat.reduceLT, Nat.reduceLeDiff, ↓reduceIte, Ml, Mm, Nat.reduceBEq, Mn, Mo, Mp, Mq, reduceCtorEq, Mr, Ms, Gk, Gl, Gm, Gn, Gp, Gq, Gr, Gs, Gt, Gu, Gv, Gw, Gx, Gy, Gz, Ha, Hb, Hc, Hd, He, Hf, Hg, Hh, Hj, Hk, Hl, Hm, Hn, Ho, Hq, Hr, Hs, Ht, Hu, Hv, Hw, Hy, Hz, Ia, Ib, Ic, Ie, Ig, Ih, Ii, Ij, Ik, Il, Im, Io, Ip, Iq, Ir, Iu, Iv, Iw, Iy, Iz, Ja, Jb, Jc, Jd, Je, Jf, Jg, Jh, Ji, Jj, Jk, Jl, Jm, Jn, Jo, Jp, Jq, Jr, Js, Jt, Ju, Jv, Jw, Jy, Jz, Ka, Kb, Kc, Ke, Kf, Kg, Kh, Ki, Kj, Kk, Kl, Km, Kn, Ko, Kq, Kr, Ks, Kt, Ku, Kv, Kw, Kx, Ky, Kz, La, Lb, Lc, Ld, Le, Lf, Lg, Lh, Li, Lj, Ll, Lm, Ln, Lp, and_self, true_and, and_true, Mt, Mu, Mv, Mw, Mx, My, Mz, Na, Nb, Nc, Nd, Nf, Ng, Nh, Int.reduceToNat, Int.reduceLT, Int.reduceEq, Int.reduceLE, List.getElem?_cons_zero, List.getElem?_cons_succ, Lr, Ls, Lt, Ni, Nj, Nk, Nl, gt_iff_lt, ge_iff_le, Lu, Lv, Lw, Lx, Ly, Ma, Nn, Np, Mb, Mc, Md, Me, Mf, Mg, Mh, Mi, Mj, Mk, Nq, Nr, hw, hc, decide_false, splG]
  | succ m ih =>
    intro k h1 h2 h3
    have hw : IntKind.i64.wrap ((n : Int) - k) = (n : Int) - k := wrap_i64 (by omega) (by omega)
    rw [splG]
    by_cases hc : k + k < n
    · have hc' : (k : Int) < (n : Int) - k := by omega
      have hw2 : IntKind.i64.wrap ((k : Int) * 2) = ((k * 2 : Nat) : Int) := by
        rw [show (k : Int) * 2 = ((k * 2 : Nat) : Int) by omega]
        exact wrap_i64 (by omega) (by omega)
      have ih' := ih (k * 2) (by omega) (by omega) (by omega)
      rw [if_pos hc, loopR]
      conv => lhs; arg 3; arg 1; rw [l251_0]
      simp only [Aa, Ab, Ac, Ad, Ae, Af, Ag, Ah, Ai, Aj, Ak, Al, Am, Ao, Ap, Aq, Ar, Au, Av, Aw, Ay, Az, Ba, Bb, Bc, Bd, Be, Bf, Bg, Bh, Bi, Bj, Bk, Bl, Bm, Bn, Bo, Bp, Bq, Br, Bs, Bt, Bv, Bw, Bx, Bz, Ca, Cb, Cc, Cd, Ce, Cf, Cg, Ch, Ci, Cj, Ck, Cl, Cm, Cn, Co, Cp, Cq, Cr, Cs, Ct, Cu, Cv, Cw, Cy, Cz, Da, Db, Dc, De, Df, Dg, Dh, Di, Dj, Dk, Dl, Dm, Dn, Option.map_some, Dp, Dq, Dr, Dt, Du, Dv, Dw, Dx, Dy, Dz, Ea, Eb, Ec, Ed, Ee, Ef, Eg, Eh, Ei, Ej, Ek, El, Em, Eo, Ep, Er, Es, Et, Eu, Ev, Ew, Ey, Ez, Fa, Fb, Fc, Fe, Ff, Fg, Fh, Fj, Fl, Fm, Fp, Fq, Fs, Ft, Fu, Fv, Fw, Fx, Fy, Fz, Ga, Gb, Gc, Gd, Ge, Gf, Gg, Gh, Gi, Gj, Nat.reduceEqDiff, Nat.reduceAdd, Nat.reduceMul, Nat.reduceLT, Nat.reduceLeDiff, ↓reduceIte, Ml, Mm, Nat.reduceBEq, Mn, Mo, Mp, Mq, reduceCtorEq, Mr, Ms, Gk, Gl, Gm, Gn, Gp, Gq, Gr, Gs, Gt, Gu, Gv, Gw, Gx, Gy, Gz, Ha, Hb, Hc, Hd, He, Hf, Hg, Hh, Hj, Hk, Hl, Hm, Hn, Ho, Hq, Hr, Hs, Ht, Hu, Hv, Hw, Hy, Hz, Ia, Ib, Ic, Ie, Ig, Ih, Ii, Ij, Ik, Il, Im, Io, Ip, Iq, Ir, Iu, Iv, Iw, Iy, Iz, Ja, Jb, Jc, Jd, Je, Jf, Jg, Jh, Ji, Jj, Jk, Jl, Jm, Jn, Jo, Jp, Jq, Jr, Js, Jt, Ju, Jv, Jw, Jy, Jz, Ka, Kb, Kc, Ke, Kf, Kg, Kh, Ki, Kj, Kk, Kl, Km, Kn, Ko, Kq, Kr, Ks, Kt, Ku, Kv, Kw, Kx, Ky, Kz, La, Lb, Lc, Ld, Le, Lf, Lg, Lh, Li, Lj, Ll, Lm, Ln, Lp, and_self, true_and, and_true, Mt, Mu, Mv, Mw, Mx, My, Mz, Na, Nb, Nc, Nd, Nf, Ng, Nh, Int.reduceToNat, Int.reduceLT, Int.reduceEq, Int.reduceLE, List.getElem?_cons_zero, List.getElem?_cons_succ, Lr, Ls, Lt, Ni, Nj, Nk, Nl, gt_iff_lt, ge_iff_le, Lu, Lv, Lw, Lx, Ly, Ma, Nn, Np, Mb, Mc, Md, Me, Mf, Mg, Mh, Mi, Mj, Mk, Nq, Nr, hw, hc', decide_true, hw2]
      exact ih'
    · have hc' : ¬ (k : Int) < (n : Int) - k := by omega
      rw [if_neg hc, loopR]
      conv => lhs; arg 3; arg 1; rw [l251_0]
      simp only [Aa, Ab, Ac, Ad, Ae, Af, Ag, Ah, Ai, Aj, Ak, Al, Am, Ao, Ap, Aq, Ar, Au, Av, Aw, Ay, Az, Ba, Bb, Bc, Bd, Be, Bf, Bg, Bh, Bi, Bj, Bk, Bl, Bm, Bn, Bo, Bp, Bq, Br, Bs, Bt, Bv, Bw, Bx, Bz, Ca, Cb, Cc, Cd, Ce, Cf, Cg, Ch, Ci, Cj, Ck, Cl, Cm, Cn, Co, Cp, Cq, Cr, Cs, Ct, Cu, Cv, Cw, Cy, Cz, Da, Db, Dc, De, Df, Dg, Dh, Di, Dj, Dk, Dl, Dm, Dn, Option.map_some, Dp, Dq, Dr, Dt, Du, Dv, Dw, Dx, Dy, Dz, Ea, Eb, Ec, Ed, Ee, Ef, Eg, Eh, Ei, Ej, Ek, El, Em, Eo, Ep, Er, Es, Et, Eu, Ev, Ew, Ey, Ez, Fa, Fb, Fc, Fe, Ff, Fg, Fh, Fj, Fl, Fm, Fp, Fq, Fs, Ft, Fu, Fv, Fw, Fx, Fy, Fz, Ga, Gb, Gc, Gd, Ge, Gf, Gg, Gh, Gi, Gj, Nat.reduceEqDiff, Nat.reduceAdd, Nat.reduceMul, Nat.reduceLT, Nat.reduceLeDiff, ↓reduceIte, Ml, Mm, Nat.reduceBEq, Mn, Mo, Mp, Mq, reduceCtorEq, Mr, Ms, Gk, Gl, Gm, Gn, Gp, Gq, Gr, Gs, Gt, Gu, Gv, Gw, Gx, Gy, Gz, Ha, Hb, Hc, Hd, He, Hf, Hg, Hh, Hj, Hk, Hl, Hm, Hn, Ho, Hq, Hr, Hs, Ht, Hu, Hv, Hw, Hy, Hz, Ia, Ib, Ic, Ie, Ig, Ih, Ii, Ij, Ik, Il, Im, Io, Ip, Iq, Ir, Iu, Iv, Iw, Iy, Iz, Ja, Jb, Jc, Jd, Je, Jf, Jg, Jh, Ji, Jj, Jk, Jl, Jm, Jn, Jo, Jp, Jq, Jr, Js, Jt, Ju, Jv, Jw, Jy, Jz, Ka, Kb, Kc, Ke, Kf, Kg, Kh, Ki, Kj, Kk, Kl, Km, Kn, Ko, Kq, Kr, Ks, Kt, Ku, Kv, Kw, Kx, Ky, Kz, La, Lb, Lc, Ld, Le, Lf, Lg, Lh, Li, Lj, Ll, Lm, Ln, Lp, and_self, true_and, and_true, Mt, Mu, Mv, Mw, Mx, My, Mz, Na, Nb, Nc, Nd, Nf, Ng, Nh, Int.reduceToNat, Int.reduceLT, Int.reduceEq, Int.reduceLE, List.getElem?_cons_zero, List.getElem?_cons_succ, Lr, Ls, Lt, Ni, Nj, Nk, Nl, gt_iff_lt, ge_iff_le, Lu, Lv, Lw, Lx, Ly, Ma, Nn, Np, Mb, Mc, Md, Me, Mf, Mg, Mh, Mi, Mj, Mk, Nq, Nr, hw, hc', decide_false]

theorem d_split251 {E : Env} (h251 : E 251 = some (.code c251)) (n : Nat) (hn : n ≤ 1000000) (hp : Hp) : deepE E (Call E) 251 [.int .i64 n] hp = some (.int .i64 (spl n)) := by
  rw [deep_code h251 rfl, deep_go]
  simp only [mapO_nil, mapO_cons, consO_some, snapA_int, goD_some]
  rw [Call_mk E h251 _ _ rfl]
  by_cases h : n < 2
  · have h' : (n : Int) < 2 := by omega
    simp only [Aa, Ab, Ac, Ad, Ae, Af, Ag, Ah, Ai, Aj, Ak, Al, Am, Ao, Ap, Aq, Ar, Au, Av, Aw, Ay, Az, Ba, Bb, Bc, Bd, Be, Bf, Bg, Bh, Bi, Bj, Bk, Bl, Bm, Bn, Bo, Bp, Bq, Br, Bs, Bt, Bv, Bw, Bx, Bz, Ca, Cb, Cc, Cd, Ce, Cf, Cg, Ch, Ci, Cj, Ck, Cl, Cm, Cn, Co, Cp, Cq, Cr, Cs, Ct, Cu, Cv, Cw, Cy, Cz, Da, Db, Dc, De, Df, Dg, Dh, Di, Dj, Dk, Dl, Dm, Dn, Option.map_some, Dp, Dq, Dr, Dt, Du, Dv, Dw, Dx, Dy, Dz, Ea, Eb, Ec, Ed, Ee, Ef, Eg, Eh, Ei, Ej, Ek, El, Em, Eo, Ep, Er, Es, Et, Eu, Ev, Ew, Ey, Ez, Fa, Fb, Fc, Fe, Ff, Fg, Fh, Fj, Fl, Fm, Fp, Fq, Fs, Ft, Fu, Fv, Fw, Fx, Fy, Fz, Ga, Gb, Gc, Gd, Ge, Gf, Gg, Gh, Gi, Gj, Nat.reduceEqDiff, Nat.reduceAdd, Nat.reduceMul, Nat.reduceLT, Nat.reduceLeDiff, ↓reduceIte, Ml, Mm, Nat.reduceBEq, Mn, Mo, Mp, Mq, reduceCtorEq, Mr, Ms, Gk, Gl, Gm, Gn, Gp, Gq, Gr, Gs, Gt, Gu, Gv, Gw, Gx, Gy, Gz, Ha, Hb, Hc, Hd, He, Hf, Hg, Hh, Hj, Hk, Hl, Hm, Hn, Ho, Hq, Hr, Hs, Ht, Hu, Hv, Hw, Hy, Hz, Ia, Ib, Ic, Ie, Ig, Ih, Ii, Ij, Ik, Il, Im, Io, Ip, Iq, Ir, Iu, Iv, Iw, Iy, Iz, Ja, Jb, Jc, Jd, Je, Jf, Jg, Jh, Ji, Jj, Jk, Jl, Jm, Jn, Jo, Jp, Jq, Jr, Js, Jt, Ju, Jv, Jw, Jy, Jz, Ka, Kb, Kc, Ke, Kf, Kg, Kh, Ki, Kj, Kk, Kl, Km, Kn, Ko, Kq, Kr, Ks, Kt, Ku, Kv, Kw, Kx, Ky, Kz, La, Lb, Lc, Ld, Le, Lf, Lg, Lh, Li, Lj, Ll, Lm, Ln, Lp, and_self, true_and, and_true, Mt, Mu, Mv, Mw, Mx, My, Mz, Na, Nb, Nc, Nd, Nf, Ng, Nh, Int.reduceToNat, Int.reduceLT, Int.reduceEq, Int.reduceLE, List.getElem?_cons_zero, List.getElem?_cons_succ, Lr, Ls, Lt, Ni, Nj, Nk, Nl, gt_iff_lt, ge_iff_le, Lu, Lv, Lw, Lx, Ly, Ma, Nn, Np, Mb, Mc, Md, Me, Mf, Mg, Mh, Mi, Mj, Mk, Nq, Nr, h', decide_true, spl, h, if_true, Int.cast_ofNat_Int]
  · have h' : ¬ (n : Int) < 2 := by omega
    have hl := loop251 (E := E) n hn n 1 (by omega) (by omega) (by omega)
    simp only [Int.cast_ofNat_Int] at hl
    simp only [Aa, Ab, Ac, Ad, Ae, Af, Ag, Ah, Ai, Aj, Ak, Al, Am, Ao, Ap, Aq, Ar, Au, Av, Aw, Ay, Az, Ba, Bb, Bc, Bd, Be, Bf, Bg, Bh, Bi, Bj, Bk, Bl, Bm, Bn, Bo, Bp, Bq, Br, Bs, Bt, Bv, Bw, Bx, Bz, Ca, Cb, Cc, Cd, Ce, Cf, Cg, Ch, Ci, Cj, Ck, Cl, Cm, Cn, Co, Cp, Cq, Cr, Cs, Ct, Cu, Cv, Cw, Cy, Cz, Da, Db, Dc, De, Df, Dg, Dh, Di, Dj, Dk, Dl, Dm, Dn, Option.map_some, Dp, Dq, Dr, Dt, Du, Dv, Dw, Dx, Dy, Dz, Ea, Eb, Ec, Ed, Ee, Ef, Eg, Eh, Ei, Ej, Ek, El, Em, Eo, Ep, Er, Es, Et, Eu, Ev, Ew, Ey, Ez, Fa, Fb, Fc, Fe, Ff, Fg, Fh, Fj, Fl, Fm, Fp, Fq, Fs, Ft, Fu, Fv, Fw, Fx, Fy, Fz, Ga, Gb, Gc, Gd, Ge, Gf, Gg, Gh, Gi, Gj, Nat.reduceEqDiff, Nat.reduceAdd, Nat.reduceMul, Nat.reduceLT, Nat.reduceLeDiff, ↓reduceIte, Ml, Mm, Nat.reduceBEq, Mn, Mo, Mp, Mq, reduceCtorEq, Mr, Ms, Gk, Gl, Gm, Gn, Gp, Gq, Gr, Gs, Gt, Gu, Gv, Gw, Gx, Gy, Gz, Ha, Hb, Hc, Hd, He, Hf, Hg, Hh, Hj, Hk, Hl, Hm, Hn, Ho, Hq, Hr, Hs, Ht, Hu, Hv, Hw, Hy, Hz, Ia, Ib, Ic, Ie, Ig, Ih, Ii, Ij, Ik, Il, Im, Io, Ip, Iq, Ir, Iu, Iv, Iw, Iy, Iz, Ja, Jb, Jc, Jd, Je, Jf, Jg, Jh, Ji, Jj, Jk, Jl, Jm, Jn, Jo, Jp, Jq, Jr, Js, Jt, Ju, Jv, Jw, Jy, Jz, Ka, Kb, Kc, Ke, Kf, Kg, Kh, Ki, Kj, Kk, Kl, Km, Kn, Ko, Kq, Kr, Ks, Kt, Ku, Kv, Kw, Kx, Ky, Kz, La, Lb, Lc, Ld, Le, Lf, Lg, Lh, Li, Lj, Ll, Lm, Ln, Lp, and_self, true_and, and_true, Mt, Mu, Mv, Mw, Mx, My, Mz, Na, Nb, Nc, Nd, Nf, Ng, Nh, Int.reduceToNat, Int.reduceLT, Int.reduceEq, Int.reduceLE, List.getElem?_cons_zero, List.getElem?_cons_succ, Lr, Ls, Lt, Ni, Nj, Nk, Nl, gt_iff_lt, ge_iff_le, Lu, Lv, Lw, Lx, Ly, Ma, Nn, Np, Mb, Mc, Md, Me, Mf, Mg, Mh, Mi, Mj, Mk, Nq, Nr, h', decide_false]
    rw [hl]
    simp only [Aa, Ab, Ac, Ad, Ae, Af, Ag, Ah, Ai, Aj, Ak, Al, Am, Ao, Ap, Aq, Ar, Au, Av, Aw, Ay, Az, Ba, Bb, Bc, Bd, Be, Bf, Bg, Bh, Bi, Bj, Bk, Bl, Bm, Bn, Bo, Bp, Bq, Br, Bs, Bt, Bv, Bw, Bx, Bz, Ca, Cb, Cc, Cd, Ce, Cf, Cg, Ch, Ci, Cj, Ck, Cl, Cm, Cn, Co, Cp, Cq, Cr, Cs, Ct, Cu, Cv, Cw, Cy, Cz, Da, Db, Dc, De, Df, Dg, Dh, Di, Dj, Dk, Dl, Dm, Dn, Option.map_some, Dp, Dq, Dr, Dt, Du, Dv, Dw, Dx, Dy, Dz, Ea, Eb, Ec, Ed, Ee, Ef, Eg, Eh, Ei, Ej, Ek, El, Em, Eo, Ep, Er, Es, Et, Eu, Ev, Ew, Ey, Ez, Fa, Fb, Fc, Fe, Ff, Fg, Fh, Fj, Fl, Fm, Fp, Fq, Fs, Ft, Fu, Fv, Fw, Fx, Fy, Fz, Ga, Gb, Gc, Gd, Ge, Gf, Gg, Gh, Gi, Gj, Nat.reduceEqDiff, Nat.reduceAdd, Nat.reduceMul, Nat.reduceLT, Nat.reduceLeDiff, ↓reduceIte, Ml, Mm, Nat.reduceBEq, Mn, Mo, Mp, Mq, reduceCtorEq, Mr, Ms, Gk, Gl, Gm, Gn, Gp, Gq, Gr, Gs, Gt, Gu, Gv, Gw, Gx, Gy, Gz, Ha, Hb, Hc, Hd, He, Hf, Hg, Hh, Hj, Hk, Hl, Hm, Hn, Ho, Hq, Hr, Hs, Ht, Hu, Hv, Hw, Hy, Hz, Ia, Ib, Ic, Ie, Ig, Ih, Ii, Ij, Ik, Il, Im, Io, Ip, Iq, Ir, Iu, Iv, Iw, Iy, Iz, Ja, Jb, Jc, Jd, Je, Jf, Jg, Jh, Ji, Jj, Jk, Jl, Jm, Jn, Jo, Jp, Jq, Jr, Js, Jt, Ju, Jv, Jw, Jy, Jz, Ka, Kb, Kc, Ke, Kf, Kg, Kh, Ki, Kj, Kk, Kl, Km, Kn, Ko, Kq, Kr, Ks, Kt, Ku, Kv, Kw, Kx, Ky, Kz, La, Lb, Lc, Ld, Le, Lf, Lg, Lh, Li, Lj, Ll, Lm, Ln, Lp, and_self, true_and, and_true, Mt, Mu, Mv, Mw, Mx, My, Mz, Na, Nb, Nc, Nd, Nf, Ng, Nh, Int.reduceToNat, Int.reduceLT, Int.reduceEq, Int.reduceLE, List.getElem?_cons_zero, List.getElem?_cons_succ, Lr, Ls, Lt, Ni, Nj, Nk, Nl, gt_iff_lt, ge_iff_le, Lu, Lv, Lw, Lx, Ly, Ma, Nn, Np, Mb, Mc, Md, Me, Mf, Mg, Mh, Mi, Mj, Mk, Nq, Nr, spl, h, if_false]

theorem d_root242 {E : Env} (W : HasW E) (h241 : E 241 = some (.code c241)) (h251 : E 251 = some (.code c251)) (h242 : E 242 = some (.code c242)) : ∀ (m : Nat) (f p : Bool) (l : List Q) (hp : Hp), l.length ≤ m → l.length ≤ 1000000 →
    deepE E (Call E) 242 [.list f p (dS l)] hp = some (rootQ m l).s := by
  intro m
  induction m with
  | zero =>
    intro f p l hp hl _
    obtain rfl : l = [] := List.eq_nil_of_length_eq_zero (by omega)
    have hw := fun hp => d_words12 W.e26 W.e13 W.e12 2 true true [] (by simp) hp
    rw [deep_code h242 rfl, deep_go]
    simp only [mapO_nil, mapO_cons, consO_some, snapA_list, goD_some]
    rw [Call_mk E h242 _ _ rfl]
    rw [show u32s [] = [] from rfl] at hw
    simp only [Aa, Ab, Ac, Ad, Ae, Af, Ag, Ah, Ai, Aj, Ak, Al, Am, Ao, Ap, Aq, Ar, Au, Av, Aw, Ay, Az, Ba, Bb, Bc, Bd, Be, Bf, Bg, Bh, Bi, Bj, Bk, Bl, Bm, Bn, Bo, Bp, Bq, Br, Bs, Bt, Bv, Bw, Bx, Bz, Ca, Cb, Cc, Cd, Ce, Cf, Cg, Ch, Ci, Cj, Ck, Cl, Cm, Cn, Co, Cp, Cq, Cr, Cs, Ct, Cu, Cv, Cw, Cy, Cz, Da, Db, Dc, De, Df, Dg, Dh, Di, Dj, Dk, Dl, Dm, Dn, Option.map_some, Dp, Dq, Dr, Dt, Du, Dv, Dw, Dx, Dy, Dz, Ea, Eb, Ec, Ed, Ee, Ef, Eg, Eh, Ei, Ej, Ek, El, Em, Eo, Ep, Er, Es, Et, Eu, Ev, Ew, Ey, Ez, Fa, Fb, Fc, Fe, Ff, Fg, Fh, Fj, Fl, Fm, Fp, Fq, Fs, Ft, Fu, Fv, Fw, Fx, Fy, Fz, Ga, Gb, Gc, Gd, Ge, Gf, Gg, Gh, Gi, Gj, Nat.reduceEqDiff, Nat.reduceAdd, Nat.reduceMul, Nat.reduceLT, Nat.reduceLeDiff, ↓reduceIte, Ml, Mm, Nat.reduceBEq, Mn, Mo, Mp, Mq, reduceCtorEq, Mr, Ms, Gk, Gl, Gm, Gn, Gp, Gq, Gr, Gs, Gt, Gu, Gv, Gw, Gx, Gy, Gz, Ha, Hb, Hc, Hd, He, Hf, Hg, Hh, Hj, Hk, Hl, Hm, Hn, Ho, Hq, Hr, Hs, Ht, Hu, Hv, Hw, Hy, Hz, Ia, Ib, Ic, Ie, Ig, Ih, Ii, Ij, Ik, Il, Im, Io, Ip, Iq, Ir, Iu, Iv, Iw, Iy, Iz, Ja, Jb, Jc, Jd, Je, Jf, Jg, Jh, Ji, Jj, Jk, Jl, Jm, Jn, Jo, Jp, Jq, Jr, Js, Jt, Ju, Jv, Jw, Jy, Jz, Ka, Kb, Kc, Ke, Kf, Kg, Kh, Ki, Kj, Kk, Kl, Km, Kn, Ko, Kq, Kr, Ks, Kt, Ku, Kv, Kw, Kx, Ky, Kz, La, Lb, Lc, Ld, Le, Lf, Lg, Lh, Li, Lj, Ll, Lm, Ln, Lp, and_self, true_and, and_true, Mt, Mu, Mv, Mw, Mx, My, Mz, Na, Nb, Nc, Nd, Nf, Ng, Nh, Int.reduceToNat, Int.reduceLT, Int.reduceEq, Int.reduceLE, List.getElem?_cons_zero, List.getElem?_cons_succ, Lr, Ls, Lt, Ni, Nj, Nk, Nl, gt_iff_lt, ge_iff_le, Lu, Lv, Lw, Lx, Ly, Ma, Nn, Np, Mb, Mc, Md, Me, Mf, Mg, Mh, Mi, Mj, Mk, Nq, Nr, dS, List.map_nil, op_call_deep _ _ W.e12 rfl, hw, decide_true, Int.cast_ofNat_Int, Q.s, rootQ]
  | succ m ih =>
    intro f p l hp hl hb
    rw [deep_code h242 rfl, deep_go]
    simp only [mapO_nil, mapO_cons, consO_some, snapA_list, goD_some]
    rw [Call_mk E h242 _ _ rfl]
    match l, hl, hb with
    | [], _, _ =>
      have hw := fun hp => d_words12 W.e26 W.e13 W.e12 2 true true [] (by simp) hp
      rw [show u32s [] = [] from rfl] at hw
      simp only [Aa, Ab, Ac, Ad, Ae, Af, Ag, Ah, Ai, Aj, Ak, Al, Am, Ao, Ap, Aq, Ar, Au, Av, Aw, Ay, Az, Ba, Bb, Bc, Bd, Be, Bf, Bg, Bh, Bi, Bj, Bk, Bl, Bm, Bn, Bo, Bp, Bq, Br, Bs, Bt, Bv, Bw, Bx, Bz, Ca, Cb, Cc, Cd, Ce, Cf, Cg, Ch, Ci, Cj, Ck, Cl, Cm, Cn, Co, Cp, Cq, Cr, Cs, Ct, Cu, Cv, Cw, Cy, Cz, Da, Db, Dc, De, Df, Dg, Dh, Di, Dj, Dk, Dl, Dm, Dn, Option.map_some, Dp, Dq, Dr, Dt, Du, Dv, Dw, Dx, Dy, Dz, Ea, Eb, Ec, Ed, Ee, Ef, Eg, Eh, Ei, Ej, Ek, El, Em, Eo, Ep, Er, Es, Et, Eu, Ev, Ew, Ey, Ez, Fa, Fb, Fc, Fe, Ff, Fg, Fh, Fj, Fl, Fm, Fp, Fq, Fs, Ft, Fu, Fv, Fw, Fx, Fy, Fz, Ga, Gb, Gc, Gd, Ge, Gf, Gg, Gh, Gi, Gj, Nat.reduceEqDiff, Nat.reduceAdd, Nat.reduceMul, Nat.reduceLT, Nat.reduceLeDiff, ↓reduceIte, Ml, Mm, Nat.reduceBEq, Mn, Mo, Mp, Mq, reduceCtorEq, Mr, Ms, Gk, Gl, Gm, Gn, Gp, Gq, Gr, Gs, Gt, Gu, Gv, Gw, Gx, Gy, Gz, Ha, Hb, Hc, Hd, He, Hf, Hg, Hh, Hj, Hk, Hl, Hm, Hn, Ho, Hq, Hr, Hs, Ht, Hu, Hv, Hw, Hy, Hz, Ia, Ib, Ic, Ie, Ig, Ih, Ii, Ij, Ik, Il, Im, Io, Ip, Iq, Ir, Iu, Iv, Iw, Iy, Iz, Ja, Jb, Jc, Jd, Je, Jf, Jg, Jh, Ji, Jj, Jk, Jl, Jm, Jn, Jo, Jp, Jq, Jr, Js, Jt, Ju, Jv, Jw, Jy, Jz, Ka, Kb, Kc, Ke, Kf, Kg, Kh, Ki, Kj, Kk, Kl, Km, Kn, Ko, Kq, Kr, Ks, Kt, Ku, Kv, Kw, Kx, Ky, Kz, La, Lb, Lc, Ld, Le, Lf, Lg, Lh, Li, Lj, Ll, Lm, Ln, Lp, and_self, true_and, and_true, Mt, Mu, Mv, Mw, Mx, My, Mz, Na, Nb, Nc, Nd, Nf, Ng, Nh, Int.reduceToNat, Int.reduceLT, Int.reduceEq, Int.reduceLE, List.getElem?_cons_zero, List.getElem?_cons_succ, Lr, Ls, Lt, Ni, Nj, Nk, Nl, gt_iff_lt, ge_iff_le, Lu, Lv, Lw, Lx, Ly, Ma, Nn, Np, Mb, Mc, Md, Me, Mf, Mg, Mh, Mi, Mj, Mk, Nq, Nr, dS, List.map_nil, op_call_deep _ _ W.e12 rfl, hw, decide_true, Int.cast_ofNat_Int, Q.s, rootQ]
    | [x], _, _ =>
      have hq := fun hp => d_leaf241 W h241 x hp
      simp only [Q.s] at hq
      have h1 : ¬ ((1 : Int) = 0) := by decide
      simp only [Aa, Ab, Ac, Ad, Ae, Af, Ag, Ah, Ai, Aj, Ak, Al, Am, Ao, Ap, Aq, Ar, Au, Av, Aw, Ay, Az, Ba, Bb, Bc, Bd, Be, Bf, Bg, Bh, Bi, Bj, Bk, Bl, Bm, Bn, Bo, Bp, Bq, Br, Bs, Bt, Bv, Bw, Bx, Bz, Ca, Cb, Cc, Cd, Ce, Cf, Cg, Ch, Ci, Cj, Ck, Cl, Cm, Cn, Co, Cp, Cq, Cr, Cs, Ct, Cu, Cv, Cw, Cy, Cz, Da, Db, Dc, De, Df, Dg, Dh, Di, Dj, Dk, Dl, Dm, Dn, Option.map_some, Dp, Dq, Dr, Dt, Du, Dv, Dw, Dx, Dy, Dz, Ea, Eb, Ec, Ed, Ee, Ef, Eg, Eh, Ei, Ej, Ek, El, Em, Eo, Ep, Er, Es, Et, Eu, Ev, Ew, Ey, Ez, Fa, Fb, Fc, Fe, Ff, Fg, Fh, Fj, Fl, Fm, Fp, Fq, Fs, Ft, Fu, Fv, Fw, Fx, Fy, Fz, Ga, Gb, Gc, Gd, Ge, Gf, Gg, Gh, Gi, Gj, Nat.reduceEqDiff, Nat.reduceAdd, Nat.reduceMul, Nat.reduceLT, Nat.reduceLeDiff, ↓reduceIte, Ml, Mm, Nat.reduceBEq, Mn, Mo, Mp, Mq, reduceCtorEq, Mr, Ms, Gk, Gl, Gm, Gn, Gp, Gq, Gr, Gs, Gt, Gu, Gv, Gw, Gx, Gy, Gz, Ha, Hb, Hc, Hd, He, Hf, Hg, Hh, Hj, Hk, Hl, Hm, Hn, Ho, Hq, Hr, Hs, Ht, Hu, Hv, Hw, Hy, Hz, Ia, Ib, Ic, Ie, Ig, Ih, Ii, Ij, Ik, Il, Im, Io, Ip, Iq, Ir, Iu, Iv, Iw, Iy, Iz, Ja, Jb, Jc, Jd, Je, Jf, Jg, Jh, Ji, Jj, Jk, Jl, Jm, Jn, Jo, Jp, Jq, Jr, Js, Jt, Ju, Jv, Jw, Jy, Jz, Ka, Kb, Kc, Ke, Kf, Kg, Kh, Ki, Kj, Kk, Kl, Km, Kn, Ko, Kq, Kr, Ks, Kt, Ku, Kv, Kw, Kx, Ky, Kz, La, Lb, Lc, Ld, Le, Lf, Lg, Lh, Li, Lj, Ll, Lm, Ln, Lp, and_self, true_and, and_true, Mt, Mu, Mv, Mw, Mx, My, Mz, Na, Nb, Nc, Nd, Nf, Ng, Nh, Int.reduceToNat, Int.reduceLT, Int.reduceEq, Int.reduceLE, List.getElem?_cons_zero, List.getElem?_cons_succ, Lr, Ls, Lt, Ni, Nj, Nk, Nl, gt_iff_lt, ge_iff_le, Lu, Lv, Lw, Lx, Ly, Ma, Nn, Np, Mb, Mc, Md, Me, Mf, Mg, Mh, Mi, Mj, Mk, Nq, Nr, dS, List.map_nil, List.map_cons, op_call_deep _ _ h241 rfl, hq, decide_true, decide_false, Int.cast_ofNat_Int, Q.s, rootQ, h1]
    | x :: y :: r, hl, hb =>
      generalize hL : x :: y :: r = L at hl hb ⊢
      have hlen : 2 ≤ L.length := by rw [← hL]; simp
      have h0 : ¬ ((L.length : Int) = 0) := by omega
      have h1 : ¬ ((L.length : Int) = 1) := by omega
      obtain ⟨b1, b2, b3⟩ := spl_bd hlen
      have hs := fun hp => d_split251 h251 L.length hb hp
      have hr1 := fun f p hp => ih f p (L.take (spl L.length)) hp (by simp; omega) (by simp; omega)
      have hr2 := fun f p hp => ih f p (L.drop (spl L.length)) hp (by simp; omega) (by simp; omega)
      have hj := fun (x y : Q) hp => d_join20 W.e26 W.e13 W.e12 W.e20 x.a x.b x.c x.d y.a y.b y.c y.d hp
      have s1 : ∀ vars hp, sliceV vars hp (some 4) (.list f p (dS L)) none (some (.int .i64 (spl L.length : Nat))) = some (.list (f && spl L.length == L.length) p (dS (L.take (spl L.length)))) := by
        intro vars hp
        simp [sliceV, sliceR, bnd, dS_esz, dS_len, dS_take]
        omega
      have s2 : ∀ vars hp, sliceV vars hp (some 4) (.list f p (dS L)) (some (.int .i64 (spl L.length : Nat))) none = some (.list (f && L.length == L.length) p (dS (L.drop (spl L.length)))) := by
        intro vars hp
        have ht : List.take L.length (dS L) = dS L := by rw [← dS_len L, List.take_length]
        have hle : spl L.length ≤ L.length := by omega
        simp [sliceV, sliceR, bnd, dS_esz, dS_len, ht, hle, dS_drop]
      have hroot : rootQ (m + 1) L = joinQ (rootQ m (L.take (spl L.length))) (rootQ m (L.drop (spl L.length))) := by rw [← hL]; rfl
      rw [hroot]
      simp only [Q.s] at hr1 hr2 hj
      simp only [Aa, Ab, Ac, Ad, Ae, Af, Ag, Ah, Ai, Aj, Ak, Al, Am, Ao, Ap, Aq, Ar, Au, Av, Aw, Ay, Az, Ba, Bb, Bc, Bd, Be, Bf, Bg, Bh, Bi, Bj, Bk, Bl, Bm, Bn, Bo, Bp, Bq, Br, Bs, Bt, Bv, Bw, Bx, Bz, Ca, Cb, Cc, Cd, Ce, Cf, Cg, Ch, Ci, Cj, Ck, Cl, Cm, Cn, Co, Cp, Cq, Cr, Cs, Ct, Cu, Cv, Cw, Cy, Cz, Da, Db, Dc, De, Df, Dg, Dh, Di, Dj, Dk, Dl, Dm, Dn, Option.map_some, Dp, Dq, Dr, Dt, Du, Dv, Dw, Dx, Dy, Dz, Ea, Eb, Ec, Ed, Ee, Ef, Eg, Eh, Ei, Ej, Ek, El, Em, Eo, Ep, Er, Es, Et, Eu, Ev, Ew, Ey, Ez, Fa, Fb, Fc, Fe, Ff, Fg, Fh, Fj, Fl, Fm, Fp, Fq, Fs, Ft, Fu, Fv, Fw, Fx, Fy, Fz, Ga, Gb, Gc, Gd, Ge, Gf, Gg, Gh, Gi, Gj, Nat.reduceEqDiff, Nat.reduceAdd, Nat.reduceMul, Nat.reduceLT, Nat.reduceLeDiff, ↓reduceIte, Ml, Mm, Nat.reduceBEq, Mn, Mo, Mp, Mq, reduceCtorEq, Mr, Ms, Gk, Gl, Gm, Gn, Gp, Gq, Gr, Gs, Gt, Gu, Gv, Gw, Gx, Gy, Gz, Ha, Hb, Hc, Hd, He, Hf, Hg, Hh, Hj, Hk, Hl, Hm, Hn, Ho, Hq, Hr, Hs, Ht, Hu, Hv, Hw, Hy, Hz, Ia, Ib, Ic, Ie, Ig, Ih, Ii, Ij, Ik, Il, Im, Io, Ip, Iq, Ir, Iu, Iv, Iw, Iy, Iz, Ja, Jb, Jc, Jd, Je, Jf, Jg, Jh, Ji, Jj, Jk, Jl, Jm, Jn, Jo, Jp, Jq, Jr, Js, Jt, Ju, Jv, Jw, Jy, Jz, Ka, Kb, Kc, Ke, Kf, Kg, Kh, Ki, Kj, Kk, Kl, Km, Kn, Ko, Kq, Kr, Ks, Kt, Ku, Kv, Kw, Kx, Ky, Kz, La, Lb, Lc, Ld, Le, Lf, Lg, Lh, Li, Lj, Ll, Lm, Ln, Lp, and_self, true_and, and_true, Mt, Mu, Mv, Mw, Mx, My, Mz, Na, Nb, Nc, Nd, Nf, Ng, Nh, Int.reduceToNat, Int.reduceLT, Int.reduceEq, Int.reduceLE, List.getElem?_cons_zero, List.getElem?_cons_succ, Lr, Ls, Lt, Ni, Nj, Nk, Nl, gt_iff_lt, ge_iff_le, Lu, Lv, Lw, Lx, Ly, Ma, Nn, Np, Mb, Mc, Md, Me, Mf, Mg, Mh, Mi, Mj, Mk, Nq, Nr, dS_len, h0, h1, decide_false, op_call_deep _ _ h251 rfl, hs, rd242_0 E (deepB_code W.e20 rfl) (deepB_code h242 rfl), d242_0, s1, s2, op_call_deep _ _ h242 rfl, hr1, hr2, op_call_deep _ _ W.e20 rfl, hj, Q.s, joinQ]
end Go.Proofs.Ytkafliflpplpeaa.Sim
namespace Go.Proofs.Ytkafliflpplpeaa.Sim
set_option linter.unusedSimpArgs false
set_option linter.unusedVariables false
open Go
set_option maxRecDepth 100000
set_option linter.unusedSimpArgs false

theorem rootQ_fuel : ∀ (m m' : Nat) (l : List Q), l.length ≤ m → l.length ≤ m' → rootQ m l = rootQ m' l
  | 0, m', l, h, _ => by
    obtain rfl : l = [] := List.eq_nil_of_length_eq_zero (by omega)
    cases m' <;> rfl
  | m + 1, 0, l, _, h => by
    obtain rfl : l = [] := List.eq_nil_of_length_eq_zero (by omega)
    rfl
  | m + 1, m' + 1, l, h, h' => by
    match l, h, h' with
    | [], _, _ => rfl
    | [x], _, _ => rfl
    | x :: y :: r, h, h' =>
      have hb := spl_bd (n := (x :: y :: r).length) (by simp)
      show joinQ _ _ = joinQ _ _
      rw [rootQ_fuel m m' (List.take (spl (x :: y :: r).length) (x :: y :: r)) (by rw [List.length_take]; omega) (by rw [List.length_take]; omega),
        rootQ_fuel m m' (List.drop (spl (x :: y :: r).length) (x :: y :: r)) (by rw [List.length_drop]; omega) (by rw [List.length_drop]; omega)]

def rt (l : List Q) : Q := rootQ l.length l
theorem rt_one (x : Q) : rt [x] = leafQ x := rfl
theorem rt_nil : rt [] = words 2 [] := rfl
theorem rt_split {l : List Q} (h : 2 ≤ l.length) : rt l = joinQ (rt (l.take (spl l.length))) (rt (l.drop (spl l.length))) := by
  have hb := spl_bd h
  match l, h with
  | x :: y :: r, h =>
    rw [rt, rootQ_fuel _ ((x :: y :: r).length + 1) _ (Nat.le_refl _) (by omega)]
    show joinQ (rootQ _ _) (rootQ _ _) = _
    rw [rt, rt, rootQ_fuel _ (List.take (spl (x :: y :: r).length) (x :: y :: r)).length _ (by rw [List.length_take]; omega) (Nat.le_refl _),
      rootQ_fuel _ (List.drop (spl (x :: y :: r).length) (x :: y :: r)).length _ (by rw [List.length_drop]; omega) (Nat.le_refl _)]

theorem d_rt239 {E : Env} (W : HasW E) (h238 : E 238 = some (.code c238)) (h243 : E 243 = some (.code c243)) (h239 : E 239 = some (.code c239)) (f p : Bool) (l : List Q) (hp : Hp) (hl : l.length ≤ 1000000) :
    deepE E (Call E) 239 [.list f p (dS l)] hp = some (rt l).s := d_root239 W h238 h243 h239 l.length f p l hp (Nat.le_refl _) hl
theorem d_rt242 {E : Env} (W : HasW E) (h241 : E 241 = some (.code c241)) (h251 : E 251 = some (.code c251)) (h242 : E 242 = some (.code c242)) (f p : Bool) (l : List Q) (hp : Hp) (hl : l.length ≤ 1000000) :
    deepE E (Call E) 242 [.list f p (dS l)] hp = some (rt l).s := d_root242 W h241 h251 h242 l.length f p l hp (Nat.le_refl _) hl

/-! Answers that are given over. -/
/-- The two forms of such an answer. -/
def OwnF (esz : Nat) (xs : List S) (v : S) : Prop := v = .tup [.int .i64 esz, .list false false xs] ∨ v = .list true true xs

/-- A call comes to an answer of its own. -/
def Gives (E : Env) (f : Nat) (as : List S) (esz : Nat) (xs : List S) : Prop := ∃ r hp' v, Call E f as [] = some (r, hp') ∧ ownR hp' r = some v ∧ OwnF esz xs v

theorem callo_deep {E : Env} {f : Nat} {g : Fun} (hn : E (f + ownOff) = none) (hE : E f = some g) (hd : g.isDeep = true) {as : List S} {esz : Nat} {xs : List S} (h : Gives E f as esz xs) :
    ∃ v, OwnF esz xs v ∧ ∀ as' hp, mapO (snapA hp) as' = some as → deepE E (Call E) (f + ownOff) as' hp = some v := by
  obtain ⟨r, hp', v, h1, h2, h3⟩ := h
  refine ⟨v, h3, fun as' hp ha => ?_⟩
  have e1 : ownOf (f + ownOff) = some f := by unfold ownOf; rw [if_pos (Nat.le_add_left _ _), Nat.add_sub_cancel]
  unfold deepE
  rw [hn]
  simp only [e1, hE, hd, if_true]
  unfold deepO
  rw [ha]
  simp only [h1, h2]

theorem dS_scalar (l : List Q) : (dS l).all (fun x => x.cells.length == 4 && x.cells.all S.scalar) = true := by
  simp [dS, Q.s, S.cells, S.scalar]

theorem dS_nil : dS [] = [] := rfl
theorem dS_cons (x : Q) (r : List Q) : dS (x :: r) = x.s :: dS r := rfl

/-! Paths. -/
def pathQ : Nat → List Q → Nat → List Q
  | 0, _, _ => []
  | m + 1, l, i =>
    if l.length = 1 then [] else
    if i < spl l.length then pathQ m (l.take (spl l.length)) i ++ [rt (l.drop (spl l.length))]
    else pathQ m (l.drop (spl l.length)) (i - spl l.length) ++ [rt (l.take (spl l.length))]

structure HasT (E : Env) : Prop extends HasW E where
  e238 : E 238 = some (.code c238)
  e239 : E 239 = some (.code c239)
  e241 : E 241 = some (.code c241)
  e242 : E 242 = some (.code c242)
  e243 : E 243 = some (.code c243)
  e251 : E 251 = some (.code c251)
  e248 : E 248 = some (.code c248)
  n248 : E (248 + ownOff) = none
  e252 : E 252 = some (.code c252)
  n252 : E (252 + ownOff) = none

theorem slice_to (vars : Vars) (hp : Hp) (f p : Bool) (L : List Q) (k : Nat) (h : k ≤ L.length) : sliceV vars hp (some 4) (.list f p (dS L)) none (some (.int .i64 (k : Int))) = some (.list (f && k == L.length) p (dS (L.take k))) := by
  simp [sliceV, sliceR, bnd, dS_esz, dS_len, dS_take, h]
theorem slice_from (vars : Vars) (hp : Hp) (f p : Bool) (L : List Q) (k : Nat) (h : k ≤ L.length) : sliceV vars hp (some 4) (.list f p (dS L)) (some (.int .i64 (k : Int))) none = some (.list (f && L.length == L.length) p (dS (L.drop k))) := by
  have ht : List.take L.length (dS L) = dS L := by rw [← dS_len L, List.take_length]
  simp [sliceV, sliceR, bnd, dS_esz, dS_len, ht, h, dS_drop]

theorem ownR_0 (l : List Q) (n : Nat) (hn : n = l.length) : ownR (trim [.rows true 4 (dS l), .dead]) (.own 0 n 0 n) = some (.tup [.int .i64 4, .list false false (dS l)]) := by
  subst hn
  have hsc := dS_scalar l
  show ownR [.rows true 4 (dS l)] (.own 0 l.length 0 l.length) = _
  simp only [ownR, List.getElem?_cons_zero, dS_len, hsc, and_self, if_true]
  rfl
theorem ownR_1 (l : List Q) (n : Nat) (hn : n = l.length) : ownR (trim [.dead, .rows true 4 (dS l)]) (.own 1 n 0 n) = some (.tup [.int .i64 4, .list false false (dS l)]) := by
  subst hn
  have hsc := dS_scalar l
  show ownR [.dead, .rows true 4 (dS l)] (.own 1 l.length 0 l.length) = _
  simp only [ownR, List.getElem?_cons_zero, List.getElem?_cons_succ, dS_len, hsc, and_self, if_true]
  rfl

/-- One more behind a slice that was given over. -/
theorem ev_app_own {dp : Nat → List S → Hp → Option S} {slot : Nat} {fr : Fr} {vars : Vars} {R : Hp} {a b : A} (l : List Q) (q : Q) (hl : l.length ≤ 1000) (n : Nat) (hn : n = l.length)
    (ha : a.ev fr = .own 0 n 0 n) (hb : b.ev fr = .list true true [q.s]) :
    evalK dp slot ⟨fr, vars, .rows true 4 (dS l) :: R⟩ (.append 4 16 a b) = some (.own 0 (n + 1) 0 (n + 1), [.h 0], [(.h 0, .rows true 4 (dS (l ++ [q])))]) := by
  subst hn
  have h0 := dS_len l
  have h1 : okLen (l.length + 1) 16 = true := by simp [okLen]; omega
  have h2 : eszAll 4 [q.s] = true := rfl
  have h3 : dS l ++ [q.s] = dS (l ++ [q]) := by rw [dS_app]; rfl
  simp [evalK, elemsR, ha, hb, appendR, h0, h1, h2, h3]
theorem ev_app_list {dp : Nat → List S → Hp → Option S} {slot : Nat} {fr : Fr} {vars : Vars} {hp : Hp} {a b : A} (l : List Q) (q : Q) (hl : l.length ≤ 1000) (ha : a.ev fr = .list true true (dS l)) (hb : b.ev fr = .list true true [q.s]) :
    evalK dp slot ⟨fr, vars, hp⟩ (.append 4 16 a b) = some (.own slot (l.length + 1) 0 (l.length + 1), [], [(.h slot, .rows true 4 (dS (l ++ [q])))]) := by
  have h0 := dS_len l
  have h1 : okLen (l.length + 1) 16 = true := by simp [okLen]; omega
  have h2 : eszAll 4 [q.s] = true := rfl
  have h3 : dS l ++ [q.s] = dS (l ++ [q]) := by rw [dS_app]; rfl
  have h4 := dS_esz l
  simp [evalK, elemsR, ha, hb, appendR, h0, h1, h2, h3, h4]
theorem ev_callo_tup {E : Env} {slot : Nat} {fr : Fr} {vars : Vars} {hp : Hp} {f : Nat} {args : List A} {esz : Nat} {xs : List S} (h : deepE E (Call E) (f + ownOff) (evs fr args) hp = some (.tup [.int .i64 esz, .list false false xs])) :
    evalK (deepE E (Call E)) slot ⟨fr, vars, hp⟩ (.callo f args) = some (.own slot xs.length 0 xs.length, (evs fr args).flatMap fun a => (argRd hp a).map L.h, [(.h slot, .rows true esz xs)]) := by
  rw [evalK_callo, h]; rfl
theorem ev_callo_list {E : Env} {slot : Nat} {fr : Fr} {vars : Vars} {hp : Hp} {f : Nat} {args : List A} {xs : List S} (h : deepE E (Call E) (f + ownOff) (evs fr args) hp = some (.list true true xs)) :
    evalK (deepE E (Call E)) slot ⟨fr, vars, hp⟩ (.callo f args) = some (.list true true xs, (evs fr args).flatMap fun a => (argRd hp a).map L.h, []) := by
  rw [evalK_callo, h]; rfl
theorem ev_lit1 {dp : Nat → List S → Hp → Option S} {slot : Nat} {fr : Fr} {vars : Vars} {hp : Hp} {a : A} (q : Q) (ha : a.ev fr = q.s) : evalK dp slot ⟨fr, vars, hp⟩ (.lit 4 (.agg [(.int .u32 0), (.int .u32 0), (.int .u32 0), (.int .u32 0)]) 1 [(0, a)]) = some (.list true true [q.s], [], []) := by
  simp only [evalK, evq, ha]
  rfl


theorem reg_d248_0 {E : Env} (T : HasT E) (f p : Bool) (L : List Q) (k i : Nat) (hk : k ≤ L.length) (hL : L.length ≤ 1000000) (P : List Q) (hPl : P.length ≤ 1000) (fr : Fr) (g0 : getF fr 0 = .list f p (dS L)) (g1 : getF fr 1 = .int .i64 i) (gk : getF fr 5 = .int .i64 k)
    (h : ∀ f', Gives E 248 [.list f' p (dS (L.take k)), .int .i64 i] 4 (dS P)) :
    ∃ fr' hp' v, Run E (.dregion d248_0) ⟨fr, [], []⟩ = some (.norm, ⟨(4, v) :: fr', [], hp'⟩) ∧ ownR hp' v = some (.tup [.int .i64 4, .list false false (dS (P ++ [(rt (L.drop k))]))]) ∧ v.outable = true := by
  have hroot := fun f p hp => d_rt239 T.toHasW T.e238 T.e243 T.e239 f p (L.drop k) hp (by simp; omega)
  have hs1 : ∀ (fr : Fr) hp, sliceR ⟨fr, [], hp⟩ (some 4) (.list f p (dS L)) none (some (.int .i64 (k : Int))) = some (.list (f && k == L.length) p (dS (L.take k)), [], []) := by
    intro fr hp
    simp [sliceR, bnd, dS_esz, dS_len, dS_take, hk]
  have hs2 : ∀ (fr : Fr) hp, sliceR ⟨fr, [], hp⟩ (some 4) (.list f p (dS L)) (some (.int .i64 (k : Int))) none = some (.list (f && L.length == L.length) p (dS (L.drop k)), [], []) := by
    intro fr hp
    have ht : List.take L.length (dS L) = dS L := by rw [← dS_len L, List.take_length]
    simp [sliceR, bnd, dS_esz, dS_len, ht, hk, dS_drop]
  obtain ⟨v, hv, hcall⟩ := callo_deep T.n248 T.e248 rfl (h (f && k == L.length))
  rcases hv with rfl | rfl
  · -- a block
    have hx : ∃ st' l, runD E (Call E) 0 d248_0 ⟨fr, [], [.dead, .dead]⟩ = some (st', l) ∧ orderOk (ancs d248_0 []) 0 [] l = true ∧ st' = ⟨(4, .own 0 ((dS P).length + 1) 0 ((dS P).length + 1)) :: st'.fr.drop 1, [], [.rows true 4 (dS (P ++ [(rt (L.drop k))])), .dead]⟩ := by
      apply Exists.intro; apply Exists.intro
      apply And.intro
      · iterate 12
          first
            | (apply runD_q rfl rfl
               · first
                 | exact ev_lit1 (rt (L.drop k)) rfl
                 | (simp only [evalK, evs, A.ev, evo, getF_cons, Nat.reduceEqDiff, if_false, if_true, g0, g1, gk, hs1, hs2, hroot]; rfl))
            | (apply runD_w rfl rfl rfl
               · exact ev_callo_tup (hcall _ _ (by simp only [evs, A.ev, getF_cons, Nat.reduceEqDiff, if_false, if_true, g0, g1, gk]; rfl))
               · (simp only [List.length_cons, List.length_set, List.length_append, List.length_nil]; decide)
               · rfl)
            | (apply runD_w rfl rfl rfl
               · exact ev_app_own P (rt (L.drop k)) hPl _ (dS_len P) rfl rfl
               · (simp only [List.length_cons, List.length_set, List.length_append, List.length_nil]; decide)
               · rfl)
        rfl
      · exact ⟨rfl, rfl⟩
    obtain ⟨st', l, h1, h2, h3⟩ := hx
    have := regionD_by (ops := d248_0) (hp := []) rfl h1 h2 rfl rfl
    rw [h3] at this
    exact ⟨_, _, _, this, ownR_0 _ _ (by simp [dS_len]), rfl⟩
  · -- a list
    have hx : ∃ st' l, runD E (Call E) 0 d248_0 ⟨fr, [], [.dead, .dead]⟩ = some (st', l) ∧ orderOk (ancs d248_0 []) 0 [] l = true ∧ st' = ⟨(4, .own 1 (P.length + 1) 0 (P.length + 1)) :: st'.fr.drop 1, [], [.dead, .rows true 4 (dS (P ++ [(rt (L.drop k))]))]⟩ := by
      apply Exists.intro; apply Exists.intro
      apply And.intro
      · iterate 12
          first
            | (apply runD_q rfl rfl
               · first
                 | exact ev_lit1 (rt (L.drop k)) rfl
                 | (simp only [evalK, evs, A.ev, evo, getF_cons, Nat.reduceEqDiff, if_false, if_true, g0, g1, gk, hs1, hs2, hroot]; rfl))
            | (apply runD_a rfl rfl rfl
               · exact ev_callo_list (hcall _ _ (by simp only [evs, A.ev, getF_cons, Nat.reduceEqDiff, if_false, if_true, g0, g1, gk]; rfl)))
            | (apply runD_w rfl rfl rfl
               · exact ev_app_list P (rt (L.drop k)) hPl rfl rfl
               · (simp only [List.length_cons, List.length_set, List.length_append, List.length_nil]; decide)
               · rfl)
        rfl
      · exact ⟨rfl, rfl⟩
    obtain ⟨st', l, h1, h2, h3⟩ := hx
    have := regionD_by (ops := d248_0) (hp := []) rfl h1 h2 rfl rfl
    rw [h3] at this
    exact ⟨_, _, _, this, ownR_1 _ _ (by simp [dS_len]), rfl⟩

theorem reg_d248_1 {E : Env} (T : HasT E) (f p : Bool) (L : List Q) (k i : Nat) (hk : k ≤ L.length) (hL : L.length ≤ 1000000) (P : List Q) (hPl : P.length ≤ 1000) (fr : Fr) (g0 : getF fr 0 = .list f p (dS L)) (g1 : getF fr 1 = .int .i64 i) (gk : getF fr 5 = .int .i64 k) (j : Nat) (hsub : binS .sub (.int .i64 i) (.int .i64 k) = some (.int .i64 j))
    (h : ∀ f', Gives E 248 [.list f' p (dS (L.drop k)), .int .i64 j] 4 (dS P)) :
    ∃ fr' hp' v, Run E (.dregion d248_1) ⟨fr, [], []⟩ = some (.norm, ⟨(4, v) :: fr', [], hp'⟩) ∧ ownR hp' v = some (.tup [.int .i64 4, .list false false (dS (P ++ [(rt (L.take k))]))]) ∧ v.outable = true := by
  have hroot := fun f p hp => d_rt239 T.toHasW T.e238 T.e243 T.e239 f p (L.take k) hp (by simp; omega)
  have hs1 : ∀ (fr : Fr) hp, sliceR ⟨fr, [], hp⟩ (some 4) (.list f p (dS L)) none (some (.int .i64 (k : Int))) = some (.list (f && k == L.length) p (dS (L.take k)), [], []) := by
    intro fr hp
    simp [sliceR, bnd, dS_esz, dS_len, dS_take, hk]
  have hs2 : ∀ (fr : Fr) hp, sliceR ⟨fr, [], hp⟩ (some 4) (.list f p (dS L)) (some (.int .i64 (k : Int))) none = some (.list (f && L.length == L.length) p (dS (L.drop k)), [], []) := by
    intro fr hp
    have ht : List.take L.length (dS L) = dS L := by rw [← dS_len L, List.take_length]
    simp [sliceR, bnd, dS_esz, dS_len, ht, hk, dS_drop]
  obtain ⟨v, hv, hcall⟩ := callo_deep T.n248 T.e248 rfl (h (f && L.length == L.length))
  rcases hv with rfl | rfl
  · -- a block
    have hx : ∃ st' l, runD E (Call E) 0 d248_1 ⟨fr, [], [.dead, .dead]⟩ = some (st', l) ∧ orderOk (ancs d248_1 []) 0 [] l = true ∧ st' = ⟨(4, .own 0 ((dS P).length + 1) 0 ((dS P).length + 1)) :: st'.fr.drop 1, [], [.rows true 4 (dS (P ++ [(rt (L.take k))])), .dead]⟩ := by
      apply Exists.intro; apply Exists.intro
      apply And.intro
      · iterate 14
          first
            | (apply runD_q rfl rfl
               · first
                 | exact ev_lit1 (rt (L.take k)) rfl
                 | (simp only [evalK, evs, A.ev, evo, getF_cons, Nat.reduceEqDiff, if_false, if_true, g0, g1, gk, hs1, hs2, hroot, hsub, Option.map_some]; rfl))
            | (apply runD_w rfl rfl rfl
               · exact ev_callo_tup (hcall _ _ (by simp only [evs, A.ev, getF_cons, Nat.reduceEqDiff, if_false, if_true, g0, g1, gk]; rfl))
               · (simp only [List.length_cons, List.length_set, List.length_append, List.length_nil]; decide)
               · rfl)
            | (apply runD_w rfl rfl rfl
               · exact ev_app_own P (rt (L.take k)) hPl _ (dS_len P) rfl rfl
               · (simp only [List.length_cons, List.length_set, List.length_append, List.length_nil]; decide)
               · rfl)
        rfl
      · exact ⟨rfl, rfl⟩
    obtain ⟨st', l, h1, h2, h3⟩ := hx
    have := regionD_by (ops := d248_1) (hp := []) rfl h1 h2 rfl rfl
    rw [h3] at this
    exact ⟨_, _, _, this, ownR_0 _ _ (by simp [dS_len]), rfl⟩
  · -- a list
    have hx : ∃ st' l, runD E (Call E) 0 d248_1 ⟨fr, [], [.dead, .dead]⟩ = some (st', l) ∧ orderOk (ancs d248_1 []) 0 [] l = true ∧ st' = ⟨(4, .own 1 (P.length + 1) 0 (P.length + 1)) :: st'.fr.drop 1, [], [.dead, .rows true 4 (dS (P ++ [(rt (L.take k))]))]⟩ := by
      apply Exists.intro; apply Exists.intro
      apply And.intro
      · iterate 14
          first
            | (apply runD_q rfl rfl
               · first
                 | exact ev_lit1 (rt (L.take k)) rfl
                 | (simp only [evalK, evs, A.ev, evo, getF_cons, Nat.reduceEqDiff, if_false, if_true, g0, g1, gk, hs1, hs2, hroot, hsub, Option.map_some]; rfl))
            | (apply runD_a rfl rfl rfl
               · exact ev_callo_list (hcall _ _ (by simp only [evs, A.ev, getF_cons, Nat.reduceEqDiff, if_false, if_true, g0, g1, gk]; rfl)))
            | (apply runD_w rfl rfl rfl
               · exact ev_app_list P (rt (L.take k)) hPl rfl rfl
               · (simp only [List.length_cons, List.length_set, List.length_append, List.length_nil]; decide)
               · rfl)
        rfl
      · exact ⟨rfl, rfl⟩
    obtain ⟨st', l, h1, h2, h3⟩ := hx
    have := regionD_by (ops := d248_1) (hp := []) rfl h1 h2 rfl rfl
    rw [h3] at this
    exact ⟨_, _, _, this, ownR_1 _ _ (by simp [dS_len]), rfl⟩

theorem reg_d252_0 {E : Env} (T : HasT E) (f p : Bool) (L : List Q) (k i : Nat) (bb : Bool) (hk : k ≤ L.length) (hL : L.length ≤ 1000000) (P : List Q) (hPl : P.length ≤ 1000) (fr : Fr) (g0 : getF fr 0 = .list f p (dS L)) (g1 : getF fr 1 = .int .i64 i) (gk : getF fr 7 = .int .i64 k) (g2 : getF fr 2 = .bool bb)
    (h : ∀ f', Gives E 252 [.list f' p (dS (L.take k)), .int .i64 i, .bool bb] 4 (dS P)) :
    ∃ fr' hp' v, Run E (.dregion d252_0) ⟨fr, [], []⟩ = some (.norm, ⟨(6, v) :: fr', [], hp'⟩) ∧ ownR hp' v = some (.tup [.int .i64 4, .list false false (dS (P ++ [(rt (L.drop k))]))]) ∧ v.outable = true := by
  have hroot := fun f p hp => d_rt239 T.toHasW T.e238 T.e243 T.e239 f p (L.drop k) hp (by simp; omega)
  have hs1 : ∀ (fr : Fr) hp, sliceR ⟨fr, [], hp⟩ (some 4) (.list f p (dS L)) none (some (.int .i64 (k : Int))) = some (.list (f && k == L.length) p (dS (L.take k)), [], []) := by
    intro fr hp
    simp [sliceR, bnd, dS_esz, dS_len, dS_take, hk]
  have hs2 : ∀ (fr : Fr) hp, sliceR ⟨fr, [], hp⟩ (some 4) (.list f p (dS L)) (some (.int .i64 (k : Int))) none = some (.list (f && L.length == L.length) p (dS (L.drop k)), [], []) := by
    intro fr hp
    have ht : List.take L.length (dS L) = dS L := by rw [← dS_len L, List.take_length]
    simp [sliceR, bnd, dS_esz, dS_len, ht, hk, dS_drop]
  obtain ⟨v, hv, hcall⟩ := callo_deep T.n252 T.e252 rfl (h (f && k == L.length))
  rcases hv with rfl | rfl
  · -- a block
    have hx : ∃ st' l, runD E (Call E) 0 d252_0 ⟨fr, [], [.dead, .dead]⟩ = some (st', l) ∧ orderOk (ancs d252_0 []) 0 [] l = true ∧ st' = ⟨(6, .own 0 ((dS P).length + 1) 0 ((dS P).length + 1)) :: st'.fr.drop 1, [], [.rows true 4 (dS (P ++ [(rt (L.drop k))])), .dead]⟩ := by
      apply Exists.intro; apply Exists.intro
      apply And.intro
      · iterate 13
          first
            | (apply runD_q rfl rfl
               · first
                 | exact ev_lit1 (rt (L.drop k)) rfl
                 | (simp only [evalK, evs, A.ev, evo, getF_cons, Nat.reduceEqDiff, if_false, if_true, g0, g1, gk, g2, hs1, hs2, hroot]; rfl))
            | (apply runD_w rfl rfl rfl
               · exact ev_callo_tup (hcall _ _ (by simp only [evs, A.ev, getF_cons, Nat.reduceEqDiff, if_false, if_true, g0, g1, gk, g2]; rfl))
               · (simp only [List.length_cons, List.length_set, List.length_append, List.length_nil]; decide)
               · rfl)
            | (apply runD_w rfl rfl rfl
               · exact ev_app_own P (rt (L.drop k)) hPl _ (dS_len P) rfl rfl
               · (simp only [List.length_cons, List.length_set, List.length_append, List.length_nil]; decide)
               · rfl)
        rfl
      · exact ⟨rfl, rfl⟩
    obtain ⟨st', l, h1, h2, h3⟩ := hx
    have := regionD_by (ops := d252_0) (hp := []) rfl h1 h2 rfl rfl
    rw [h3] at this
    exact ⟨_, _, _, this, ownR_0 _ _ (by simp [dS_len]), rfl⟩
  · -- a list
    have hx : ∃ st' l, runD E (Call E) 0 d252_0 ⟨fr, [], [.dead, .dead]⟩ = some (st', l) ∧ orderOk (ancs d252_0 []) 0 [] l = true ∧ st' = ⟨(6, .own 1 (P.length + 1) 0 (P.length + 1)) :: st'.fr.drop 1, [], [.dead, .rows true 4 (dS (P ++ [(rt (L.drop k))]))]⟩ := by
      apply Exists.intro; apply Exists.intro
      apply And.intro
      · iterate 13
          first
            | (apply runD_q rfl rfl
               · first
                 | exact ev_lit1 (rt (L.drop k)) rfl
                 | (simp only [evalK, evs, A.ev, evo, getF_cons, Nat.reduceEqDiff, if_false, if_true, g0, g1, gk, g2, hs1, hs2, hroot]; rfl))
            | (apply runD_a rfl rfl rfl
               · exact ev_callo_list (hcall _ _ (by simp only [evs, A.ev, getF_cons, Nat.reduceEqDiff, if_false, if_true, g0, g1, gk, g2]; rfl)))
            | (apply runD_w rfl rfl rfl
               · exact ev_app_list P (rt (L.drop k)) hPl rfl rfl
               · (simp only [List.length_cons, List.length_set, List.length_append, List.length_nil]; decide)
               · rfl)
        rfl
      · exact ⟨rfl, rfl⟩
    obtain ⟨st', l, h1, h2, h3⟩ := hx
    have := regionD_by (ops := d252_0) (hp := []) rfl h1 h2 rfl rfl
    rw [h3] at this
    exact ⟨_, _, _, this, ownR_1 _ _ (by simp [dS_len]), rfl⟩

theorem reg_d252_1 {E : Env} (T : HasT E) (f p : Bool) (L : List Q) (k i : Nat) (hk : k ≤ L.length) (hL : L.length ≤ 1000000) (P : List Q) (hPl : P.length ≤ 1000) (fr : Fr) (g0 : getF fr 0 = .list f p (dS L)) (g1 : getF fr 1 = .int .i64 i) (gk : getF fr 7 = .int .i64 k) (j : Nat) (hsub : binS .sub (.int .i64 i) (.int .i64 k) = some (.int .i64 j))
    (h : ∀ f', Gives E 252 [.list f' p (dS (L.drop k)), .int .i64 j, .bool false] 4 (dS P)) :
    ∃ fr' hp' v, Run E (.dregion d252_1) ⟨fr, [], []⟩ = some (.norm, ⟨(6, v) :: fr', [], hp'⟩) ∧ ownR hp' v = some (.tup [.int .i64 4, .list false false (dS (P ++ [(rt (L.take k))]))]) ∧ v.outable = true := by
  have hroot := fun f p hp => d_rt239 T.toHasW T.e238 T.e243 T.e239 f p (L.take k) hp (by simp; omega)
  have hs1 : ∀ (fr : Fr) hp, sliceR ⟨fr, [], hp⟩ (some 4) (.list f p (dS L)) none (some (.int .i64 (k : Int))) = some (.list (f && k == L.length) p (dS (L.take k)), [], []) := by
    intro fr hp
    simp [sliceR, bnd, dS_esz, dS_len, dS_take, hk]
  have hs2 : ∀ (fr : Fr) hp, sliceR ⟨fr, [], hp⟩ (some 4) (.list f p (dS L)) (some (.int .i64 (k : Int))) none = some (.list (f && L.length == L.length) p (dS (L.drop k)), [], []) := by
    intro fr hp
    have ht : List.take L.length (dS L) = dS L := by rw [← dS_len L, List.take_length]
    simp [sliceR, bnd, dS_esz, dS_len, ht, hk, dS_drop]
  obtain ⟨v, hv, hcall⟩ := callo_deep T.n252 T.e252 rfl (h (f && L.length == L.length))
  rcases hv with rfl | rfl
  · -- a block
    have hx : ∃ st' l, runD E (Call E) 0 d252_1 ⟨fr, [], [.dead, .dead]⟩ = some (st', l) ∧ orderOk (ancs d252_1 []) 0 [] l = true ∧ st' = ⟨(6, .own 0 ((dS P).length + 1) 0 ((dS P).length + 1)) :: st'.fr.drop 1, [], [.rows true 4 (dS (P ++ [(rt (L.take k))])), .dead]⟩ := by
      apply Exists.intro; apply Exists.intro
      apply And.intro
      · iterate 14
          first
            | (apply runD_q rfl rfl
               · first
                 | exact ev_lit1 (rt (L.take k)) rfl
                 | (simp only [evalK, evs, A.ev, evo, getF_cons, Nat.reduceEqDiff, if_false, if_true, g0, g1, gk, hs1, hs2, hroot, hsub, Option.map_some]; rfl))
            | (apply runD_w rfl rfl rfl
               · exact ev_callo_tup (hcall _ _ (by simp only [evs, A.ev, getF_cons, Nat.reduceEqDiff, if_false, if_true, g0, g1, gk]; rfl))
               · (simp only [List.length_cons, List.length_set, List.length_append, List.length_nil]; decide)
               · rfl)
            | (apply runD_w rfl rfl rfl
               · exact ev_app_own P (rt (L.take k)) hPl _ (dS_len P) rfl rfl
               · (simp only [List.length_cons, List.length_set, List.length_append, List.length_nil]; decide)
               · rfl)
        rfl
      · exact ⟨rfl, rfl⟩
    obtain ⟨st', l, h1, h2, h3⟩ := hx
    have := regionD_by (ops := d252_1) (hp := []) rfl h1 h2 rfl rfl
    rw [h3] at this
    exact ⟨_, _, _, this, ownR_0 _ _ (by simp [dS_len]), rfl⟩
  · -- a list
    have hx : ∃ st' l, runD E (Call E) 0 d252_1 ⟨fr, [], [.dead, .dead]⟩ = some (st', l) ∧ orderOk (ancs d252_1 []) 0 [] l = true ∧ st' = ⟨(6, .own 1 (P.length + 1) 0 (P.length + 1)) :: st'.fr.drop 1, [], [.dead, .rows true 4 (dS (P ++ [(rt (L.take k))]))]⟩ := by
      apply Exists.intro; apply Exists.intro
      apply And.intro
      · iterate 14
          first
            | (apply runD_q rfl rfl
               · first
                 | exact ev_lit1 (rt (L.take k)) rfl
                 | (simp only [evalK, evs, A.ev, evo, getF_cons, Nat.reduceEqDiff, if_false, if_true, g0, g1, gk, hs1, hs2, hroot, hsub, Option.map_some]; rfl))
            | (apply runD_a rfl rfl rfl
               · exact ev_callo_list (hcall _ _ (by simp only [evs, A.ev, getF_cons, Nat.reduceEqDiff, if_false, if_true, g0, g1, gk]; rfl)))
            | (apply runD_w rfl rfl rfl
               · exact ev_app_list P (rt (L.take k)) hPl rfl rfl
               · (simp only [List.length_cons, List.length_set, List.length_append, List.length_nil]; decide)
               · rfl)
        rfl
      · exact ⟨rfl, rfl⟩
    obtain ⟨st', l, h1, h2, h3⟩ := hx
    have := regionD_by (ops := d252_1) (hp := []) rfl h1 h2 rfl rfl
    rw [h3] at this
    exact ⟨_, _, _, this, ownR_1 _ _ (by simp [dS_len]), rfl⟩
end Go.Proofs.Ytkafliflpplpeaa.Sim
