/- Chapter 40 in the small machine: paths and proofs of consistency. Chapter 40 in the small machine: where a path leads. Chapter 40 in the small machine: what leads where; dice. Chapter 40 in the small machine: digests made by dice. The law TreePaths in the small machine. The closed run of chapter 40, with the words of both implementations taken for what they answer. No conditions. -/
import Derived.Test.YtkafliflpplpeaaSimTr1
import Derived.Test.YtkafliflpplpeaaSimB3
open Go.Proofs.Ytkafliflpplpeaa.Sim renaming Run_seq → Aa, Run_skip → Ab, Run_ret → Ac, Run_exit → Ad, Run_block → Ae, run_cond → Af, run_region → Ag, run_loop → Ah, condR_true → Ai, condR_false → Aj, regR_some → Ak, regT_some → Al, trim_nil → Am, trim_rows → Ao, trim_map → Ap, thenR_norm → Aq, thenR_ret → Ar, thenR_exit → Au, thenR_none → Av, blockR_norm → Aw, blockR_ret → Ay, blockR_exit → Az, finR_norm → Ba, finR_ret → Bb, outR_some → Bc, result_one → Bd, result_two → Be, result_three → Bf, outable_tup2 → Bg, outable_tup3 → Bh, outElem_int → Bi, outElem_bool → Bj, outElem_str → Bk, outElem_list → Bl, outElem_agg → Bm, outElem_own → Bn, outElem_ptr → Bo, outElem_nilp → Bp, resV_t → Bq, resV_cell → Br, ops_nil → Bs, ops_cons → Bt, ops_guard → Bv, onV_some → Bw, onR_some → Bx, onC_some → Bz, onG_bool → Ca, onG_skip → Cb, onB_var → Cc, onB_new → Cd, op_move → Ce, op_pick → Cf, op_bin → Cg, op_eqv → Ch, op_un → Ci, op_conv → Cj, op_alloc_var → Ck, op_alloc → Cl, op_box → Cm, op_build → Cn, op_lit → Co, op_load → Cp, op_store → Cq, op_nilchk → Cr, op_mkfn → Cs, op_mksl → Ct, op_slice → Cu, op_aslice → Cv, op_faddr → Cw, op_field → Cy, op_iaddr → Cz, op_aaddr → Da, op_index → Db, op_indexS → Dc, op_extract → De, op_len → Df, op_lenc → Dg, op_append → Dh, op_mm → Di, op_b2s → Dj, op_s2b → Dk, b2sV_list → Dl, s2bS_str → Dm, bytesS_one → Dn, put_some → Dp, put_none → Dq, getF_hit → Dr, getF_cons → Dt, ev_t → Du, ev_c → Dv, evs_nil → Dw, evs_cons → Dx, evp_nil → Dy, evp_cons → Dz, evq_nil → Ea, evq_cons → Eb, evo_none → Ec, evo_some → Ed, keep_mk → Ee, keepF_nil → Ef, keepF_cons → Eg, keep1_int → Eh, keep1_bool → Ei, keep1_str → Ej, keep1_list → Ek, keep1_own → El, keep1_ptr → Em, keep1_agg → Eo, keep1_tup → Ep, keep1_fn → Er, keep1_any → Es, keep1_skip → Et, keep1_nilp → Eu, keep1_nilf → Ev, keep1_rptr → Ew, keep1_loc → Ey, keepV_nil → Ez, keepV_cons → Fa, keepVc_some → Fb, keepVc_none → Fc, getV_nil → Fe, getV_cons → Ff, setV_nil → Fg, setV_cons → Fh, forgetF_nil → Fj, forgetF_cons → Fl, forget1_int → Fm, forget1_bool → Fp, forget1_str → Fq, forget1_list → Fs, forget1_own → Ft, forget1_ptr → Fu, forget1_agg → Fv, forget1_tup → Fw, forget1_fn → Fx, forget1_any → Fy, forget1_skip → Fz, forget1_nilp → Ga, forget1_nilf → Gb, forget1_rptr → Gc, forget1_loc → Gd, wrs_nil → Ge, wrs_cons → Gf, wr_v → Gg, wr_h → Gh, argsF_nil → Gi, argsF_cons → Gj, binS_add → Gk, binS_sub → Gl, binS_mul → Gm, binS_quo → Gn, binS_rem → Gp, binS_and → Gq, binS_or → Gr, binS_xor → Gs, binS_shl → Gt, binS_shr → Gu, binS_lss → Gv, binS_leq → Gw, binS_gtr → Gx, binS_geq → Gy, binS_eql → Gz, binS_neq → Ha, convS_int → Hb, unS_not → Hc, pickS_true → Hd, pickS_false → He, outable_int → Hf, outable_bool → Hg, outable_str → Hh, outable_list → Hj, outable_agg → Hk, outable_own → Hl, backR_some → Hm, goD_some → Hn, mapO_nil → Ho, mapO_cons → Hq, consO_some → Hr, snapA_int → Hs, snapA_bool → Ht, snapA_str → Hu, snapA_list → Hv, snapA_agg → Hw, aggO_some → Hy, tupO_some → Hz, snapR_int → Ia, snapR_bool → Ib, snapR_str → Ic, snapR_agg → Ie, snapR_tup → Ig, snapR_list → Ih, rowBy_int → Ii, rowBy_bool → Ij, rowBy_str → Ik, rowBy_list → Il, rowBy_own → Im, rowBy_agg → Io, snapC_int → Ip, snapC_bool → Iq, snapC_str → Ir, snapC_list → Iu, snapC_own → Iv, snapA_own → Iw, snapR_own → Iy, loadV_loc → Iz, loadL_row → Ja, mk_one → Jb, mk_agg → Jc, mk_single → Jd, cells_agg → Je, cells_int → Jf, cells_bool → Jg, cells_str → Jh, cells_list → Ji, cells_own → Jj, cells_fn → Jk, cells_ptr → Jl, cells_nilp → Jm, okv_int → Jn, okv_bool → Jo, okv_str → Jp, okv_list → Jq, okv_own → Jr, okv_fn → Js, okv_ptr → Jt, okv_nilp → Ju, loadV_rptr → Jv, loadV_ptr → Jw, loadP_at → Jy, mkO_some → Jz, cellsAt_eq → Ka, rowCells_some → Kb, storeAt_eq → Kc, setRow_some → Ke, storeO_some → Kf, storeP_at → Kg, storeR_loc → Kh, storeL_row → Ki, storeR_ptr → Kj, rechunk_nil → Kk, rechunk_cons → Kl, reshape_agg → Km, reshape_int → Kn, reshape_bool → Ko, reshape_str → Kq, reshape_list → Kr, reshape_own → Ks, boxS_eq → Kt, chunks_zero → Ku, chunks_one → Kv, row1_one → Kw, row1_two → Kx, buildS_nil → Ky, buildS_cons → Kz, faddrS_loc → La, faddrS_ptr → Lb, faddrS_rptr → Lc, nilS_loc → Ld, nilS_ptr → Le, nilS_rptr → Lf, fieldS_agg → Lg, aaddrS_loc → Lh, aaddrS_rptr → Li, indexV_agg → Lj, lenS_str → Ll, lenS_list → Lm, lenS_own → Ln, extractS_tup → Lp, splice_end → Lr, splice_hit → Ls, splice_next → Lt, iaddrS_list → Lu, elemAt_some → Lv, iaddrS_own → Lw, elemP_row → Lx, strAt_str → Ly, byteAt_some → Ma, litS_eq → Mb, litO_some → Mc, fillL_nil → Md, fillL_cons → Me, lit1_int → Mf, lit1_bool → Mg, lit1_str → Mh, lit1_list → Mi, replicate_z → Mj, replicate_s → Mk
open List renaming contains_cons → Ml, contains_nil → Mm, length_cons → Mr, length_nil → Ms, all_cons → Mt, all_nil → Mu, take_succ_cons → My, take_zero → Mz, take_nil → Na, drop_succ_cons → Nb, drop_zero → Nc, set_cons_zero → Ni, set_cons_succ → Nj
open Nat renaming le_refl → Mx, zero_add → Nd, add_zero → Nf, mul_one → Ng, lt_add_one → Nq, zero_lt_succ → Nr
open Int renaming toNat_zero → Nh, cast_ofNat_Int → Nk, le_refl → Nl, toNat_natCast → Nn, natCast_nonneg → Np
open Bool renaming or_true → Mn, true_or → Mo, or_false → Mp, false_or → Mq, and_true → Mv, and_self → Mw
namespace Go.Proofs.Ytkafliflpplpeaa.Sim
set_option linter.unusedSimpArgs false
set_option linter.unusedVariables false
open Go
set_option maxRecDepth 100000
set_option linter.unusedSimpArgs false

theorem pathQ_len : ∀ (m : Nat) (l : List Q) (i : Nat), (pathQ m l i).length ≤ m
  | 0, _, _ => Nat.le_refl _
  | m + 1, l, i => by
    rw [pathQ]
    split
    · simp
    · split <;> simp [pathQ_len m]

theorem ret_finR {E : Env} {t : Nat} {fr : Fr} {hp : Hp} {v : S} (hv : v.outable = true) : finR [.t t] (some (.ret, ⟨(t, v) :: fr, [], hp⟩)) = some (v, hp) := by
  simp only [finR, result, resV, getF_cons, if_true]
  rw [outR_some, if_pos hv]

theorem g_path248 {E : Env} (T : HasT E) : ∀ (m : Nat) (f p : Bool) (l : List Q) (i : Nat), l.length ≤ m → m ≤ 1000 → i < l.length → Gives E 248 [.list f p (dS l), .int .i64 i] 4 (dS (pathQ m l i))
  | 0, f, p, l, i, h, _, hi => by omega
  | m + 1, f, p, l, i, h, hm, hi => by
    have hs := fun hp => d_split243 T.e243 l.length (by omega) hp
    by_cases h1 : l.length = 1
    · have h1' : (l.length : Int) = 1 := by omega
      refine ⟨.list true true [], [], .list true true [], ?_, rfl, ?_⟩
      · rw [Call_mk E T.e248 _ _ rfl]
        simp only [Aa, Ab, Ac, Ad, Ae, Af, Ag, Ah, Ai, Aj, Ak, Al, Am, Ao, Ap, Aq, Ar, Au, Av, Aw, Ay, Az, Ba, Bb, Bc, Bd, Be, Bf, Bg, Bh, Bi, Bj, Bk, Bl, Bm, Bn, Bo, Bp, Bq, Br, Bs, Bt, Bv, Bw, Bx, Bz, Ca, Cb, Cc, Cd, Ce, Cf, Cg, Ch, Ci, Cj, Ck, Cl, Cm, Cn, Co, Cp, Cq, Cr, Cs, Ct, Cu, Cv, Cw, Cy, Cz, Da, Db, Dc, De, Df, Dg, Dh, Di, Dj, Dk, Dl, Dm, Dn, Option.map_some, Dp, Dq, Dr, Dt, Du, Dv, Dw, Dx, Dy, Dz, Ea, Eb, Ec, Ed, Ee, Ef, Eg, Eh, Ei, Ej, Ek, El, Em, Eo, Ep, Er, Es, Et, Eu, Ev, Ew, Ey, Ez, Fa, Fb, Fc, Fe, Ff, Fg, Fh, Fj, Fl, Fm, Fp, Fq, Fs, Ft, Fu, Fv, Fw, Fx, Fy, Fz, Ga, Gb, Gc, Gd, Ge, Gf, Gg, Gh, Gi, Gj, Nat.reduceEqDiff, Nat.reduceAdd, Nat.reduceMul, Nat.reduceLT, Nat.reduceLeDiff, ↓reduceIte, Ml, Mm, Nat.reduceBEq, Mn, Mo, Mp, Mq, reduceCtorEq, Mr, Ms, Gk, Gl, Gm, Gn, Gp, Gq, Gr, Gs, Gt, Gu, Gv, Gw, Gx, Gy, Gz, Ha, Hb, Hc, Hd, He, Hf, Hg, Hh, Hj, Hk, Hl, Hm, Hn, Ho, Hq, Hr, Hs, Ht, Hu, Hv, Hw, Hy, Hz, Ia, Ib, Ic, Ie, Ig, Ih, Ii, Ij, Ik, Il, Im, Io, Ip, Iq, Ir, Iu, Iv, Iw, Iy, Iz, Ja, Jb, Jc, Jd, Je, Jf, Jg, Jh, Ji, Jj, Jk, Jl, Jm, Jn, Jo, Jp, Jq, Jr, Js, Jt, Ju, Jv, Jw, Jy, Jz, Ka, Kb, Kc, Ke, Kf, Kg, Kh, Ki, Kj, Kk, Kl, Km, Kn, Ko, Kq, Kr, Ks, Kt, Ku, Kv, Kw, Kx, Ky, Kz, La, Lb, Lc, Ld, Le, Lf, Lg, Lh, Li, Lj, Ll, Lm, Ln, Lp, and_self, true_and, and_true, Mt, Mu, Mv, Mw, Mx, My, Mz, Na, Nb, Nc, Nd, Nf, Ng, Nh, Int.reduceToNat, Int.reduceLT, Int.reduceEq, Int.reduceLE, List.getElem?_cons_zero, List.getElem?_cons_succ, Lr, Ls, Lt, Ni, Nj, Nk, Nl, gt_iff_lt, ge_iff_le, Lu, Lv, Lw, Lx, Ly, Ma, Nn, Np, Mb, Mc, Md, Me, Mf, Mg, Mh, Mi, Mj, Mk, Nq, Nr, dS_len, h1', decide_true]
      · rw [pathQ, if_pos h1]; exact .inr rfl
    · have h1' : ¬ (l.length : Int) = 1 := by omega
      have hb := spl_bd (n := l.length) (by omega)
      rw [pathQ, if_neg h1]
      by_cases hlt : i < spl l.length
      · rw [if_pos hlt]
        have hlt' : (i : Int) < ((spl l.length : Nat) : Int) := by omega
        have ih := fun f' => g_path248 T m f' p (l.take (spl l.length)) i (by rw [List.length_take]; omega) (by omega) (by rw [List.length_take]; omega)
        have hreg := fun fr g0 g1 gk => reg_d248_0 T f p l (spl l.length) i (by omega) (by omega) (pathQ m (l.take (spl l.length)) i) (by have := pathQ_len m (l.take (spl l.length)) i; omega) fr g0 g1 gk ih
        obtain ⟨fr', hp', v, r1, r2, r3⟩ := hreg [(14, .bool true), (13, .int .i64 (spl l.length : Nat)), (12, .int .i64 i), (5, .int .i64 (spl l.length : Nat)), (11, .int .i64 (spl l.length : Nat)), (10, .int .i64 (l.length : Nat)), (9, .list f p (dS l)), (8, .bool false), (7, .int .i64 (l.length : Nat)), (6, .list f p (dS l)), (4, .list true true []), (0, .list f p (dS l)), (1, .int .i64 i)] rfl rfl rfl
        refine ⟨v, hp', _, ?_, r2, .inl rfl⟩
        rw [Call_mk E T.e248 _ _ rfl]
        simp only [Aa, Ab, Ac, Ad, Ae, Af, Ag, Ah, Ai, Aj, Ak, Al, Am, Ao, Ap, Aq, Ar, Au, Av, Aw, Ay, Az, Ba, Bb, Bc, Bd, Be, Bf, Bg, Bh, Bi, Bj, Bk, Bl, Bm, Bn, Bo, Bp, Bq, Br, Bs, Bt, Bv, Bw, Bx, Bz, Ca, Cb, Cc, Cd, Ce, Cf, Cg, Ch, Ci, Cj, Ck, Cl, Cm, Cn, Co, Cp, Cq, Cr, Cs, Ct, Cu, Cv, Cw, Cy, Cz, Da, Db, Dc, De, Df, Dg, Dh, Di, Dj, Dk, Dl, Dm, Dn, Option.map_some, Dp, Dq, Dr, Dt, Du, Dv, Dw, Dx, Dy, Dz, Ea, Eb, Ec, Ed, Ee, Ef, Eg, Eh, Ei, Ej, Ek, El, Em, Eo, Ep, Er, Es, Et, Eu, Ev, Ew, Ey, Ez, Fa, Fb, Fc, Fe, Ff, Fg, Fh, Fj, Fl, Fm, Fp, Fq, Fs, Ft, Fu, Fv, Fw, Fx, Fy, Fz, Ga, Gb, Gc, Gd, Ge, Gf, Gg, Gh, Gi, Gj, Nat.reduceEqDiff, Nat.reduceAdd, Nat.reduceMul, Nat.reduceLT, Nat.reduceLeDiff, ↓reduceIte, Ml, Mm, Nat.reduceBEq, Mn, Mo, Mp, Mq, reduceCtorEq, Mr, Ms, Gk, Gl, Gm, Gn, Gp, Gq, Gr, Gs, Gt, Gu, Gv, Gw, Gx, Gy, Gz, Ha, Hb, Hc, Hd, He, Hf, Hg, Hh, Hj, Hk, Hl, Hm, Hn, Ho, Hq, Hr, Hs, Ht, Hu, Hv, Hw, Hy, Hz, Ia, Ib, Ic, Ie, Ig, Ih, Ii, Ij, Ik, Il, Im, Io, Ip, Iq, Ir, Iu, Iv, Iw, Iy, Iz, Ja, Jb, Jc, Jd, Je, Jf, Jg, Jh, Ji, Jj, Jk, Jl, Jm, Jn, Jo, Jp, Jq, Jr, Js, Jt, Ju, Jv, Jw, Jy, Jz, Ka, Kb, Kc, Ke, Kf, Kg, Kh, Ki, Kj, Kk, Kl, Km, Kn, Ko, Kq, Kr, Ks, Kt, Ku, Kv, Kw, Kx, Ky, Kz, La, Lb, Lc, Ld, Le, Lf, Lg, Lh, Li, Lj, Ll, Lm, Ln, Lp, and_self, true_and, and_true, Mt, Mu, Mv, Mw, Mx, My, Mz, Na, Nb, Nc, Nd, Nf, Ng, Nh, Int.reduceToNat, Int.reduceLT, Int.reduceEq, Int.reduceLE, List.getElem?_cons_zero, List.getElem?_cons_succ, Lr, Ls, Lt, Ni, Nj, Nk, Nl, gt_iff_lt, ge_iff_le, Lu, Lv, Lw, Lx, Ly, Ma, Nn, Np, Mb, Mc, Md, Me, Mf, Mg, Mh, Mi, Mj, Mk, Nq, Nr, dS_len, h1', decide_false, op_call_deep _ _ T.e243 rfl, hs, hlt', decide_true]
        rw [r1]
        simp only [Aa, Ab, Ac, Ad, Ae, Af, Ag, Ah, Ai, Aj, Ak, Al, Am, Ao, Ap, Aq, Ar, Au, Av, Aw, Ay, Az, Ba, Bb, Bc, Bd, Be, Bf, Bg, Bh, Bi, Bj, Bk, Bl, Bm, Bn, Bo, Bp, Bq, Br, Bs, Bt, Bv, Bw, Bx, Bz, Ca, Cb, Cc, Cd, Ce, Cf, Cg, Ch, Ci, Cj, Ck, Cl, Cm, Cn, Co, Cp, Cq, Cr, Cs, Ct, Cu, Cv, Cw, Cy, Cz, Da, Db, Dc, De, Df, Dg, Dh, Di, Dj, Dk, Dl, Dm, Dn, Option.map_some, Dp, Dq, Dr, Dt, Du, Dv, Dw, Dx, Dy, Dz, Ea, Eb, Ec, Ed, Ee, Ef, Eg, Eh, Ei, Ej, Ek, El, Em, Eo, Ep, Er, Es, Et, Eu, Ev, Ew, Ey, Ez, Fa, Fb, Fc, Fe, Ff, Fg, Fh, Fj, Fl, Fm, Fp, Fq, Fs, Ft, Fu, Fv, Fw, Fx, Fy, Fz, Ga, Gb, Gc, Gd, Ge, Gf, Gg, Gh, Gi, Gj, Nat.reduceEqDiff, Nat.reduceAdd, Nat.reduceMul, Nat.reduceLT, Nat.reduceLeDiff, ↓reduceIte, Ml, Mm, Nat.reduceBEq, Mn, Mo, Mp, Mq, reduceCtorEq, Mr, Ms, Gk, Gl, Gm, Gn, Gp, Gq, Gr, Gs, Gt, Gu, Gv, Gw, Gx, Gy, Gz, Ha, Hb, Hc, Hd, He, Hf, Hg, Hh, Hj, Hk, Hl, Hm, Hn, Ho, Hq, Hr, Hs, Ht, Hu, Hv, Hw, Hy, Hz, Ia, Ib, Ic, Ie, Ig, Ih, Ii, Ij, Ik, Il, Im, Io, Ip, Iq, Ir, Iu, Iv, Iw, Iy, Iz, Ja, Jb, Jc, Jd, Je, Jf, Jg, Jh, Ji, Jj, Jk, Jl, Jm, Jn, Jo, Jp, Jq, Jr, Js, Jt, Ju, Jv, Jw, Jy, Jz, Ka, Kb, Kc, Ke, Kf, Kg, Kh, Ki, Kj, Kk, Kl, Km, Kn, Ko, Kq, Kr, Ks, Kt, Ku, Kv, Kw, Kx, Ky, Kz, La, Lb, Lc, Ld, Le, Lf, Lg, Lh, Li, Lj, Ll, Lm, Ln, Lp, and_self, true_and, and_true, Mt, Mu, Mv, Mw, Mx, My, Mz, Na, Nb, Nc, Nd, Nf, Ng, Nh, Int.reduceToNat, Int.reduceLT, Int.reduceEq, Int.reduceLE, List.getElem?_cons_zero, List.getElem?_cons_succ, Lr, Ls, Lt, Ni, Nj, Nk, Nl, gt_iff_lt, ge_iff_le, Lu, Lv, Lw, Lx, Ly, Ma, Nn, Np, Mb, Mc, Md, Me, Mf, Mg, Mh, Mi, Mj, Mk, Nq, Nr, r3]
      · rw [if_neg hlt]
        have hlt' : ¬ (i : Int) < ((spl l.length : Nat) : Int) := by omega
        have hsub : binS .sub (.int .i64 i) (.int .i64 (spl l.length : Nat)) = some (.int .i64 ((i - spl l.length : Nat) : Int)) := by
          rw [binS_sub, show (i : Int) - (spl l.length : Nat) = ((i - spl l.length : Nat) : Int) by omega, wrap_i64 (by omega) (by omega)]
        have ih := fun f' => g_path248 T m f' p (l.drop (spl l.length)) (i - spl l.length) (by rw [List.length_drop]; omega) (by omega) (by rw [List.length_drop]; omega)
        have hreg := fun fr g0 g1 gk => reg_d248_1 T f p l (spl l.length) i (by omega) (by omega) (pathQ m (l.drop (spl l.length)) (i - spl l.length)) (by have := pathQ_len m (l.drop (spl l.length)) (i - spl l.length); omega) fr g0 g1 gk _ hsub ih
        obtain ⟨fr', hp', v, r1, r2, r3⟩ := hreg [(14, .bool false), (13, .int .i64 (spl l.length : Nat)), (12, .int .i64 i), (5, .int .i64 (spl l.length : Nat)), (11, .int .i64 (spl l.length : Nat)), (10, .int .i64 (l.length : Nat)), (9, .list f p (dS l)), (8, .bool false), (7, .int .i64 (l.length : Nat)), (6, .list f p (dS l)), (4, .list true true []), (0, .list f p (dS l)), (1, .int .i64 i)] rfl rfl rfl
        refine ⟨v, hp', _, ?_, r2, .inl rfl⟩
        rw [Call_mk E T.e248 _ _ rfl]
        simp only [Aa, Ab, Ac, Ad, Ae, Af, Ag, Ah, Ai, Aj, Ak, Al, Am, Ao, Ap, Aq, Ar, Au, Av, Aw, Ay, Az, Ba, Bb, Bc, Bd, Be, Bf, Bg, Bh, Bi, Bj, Bk, Bl, Bm, Bn, Bo, Bp, Bq, Br, Bs, Bt, Bv, Bw, Bx, Bz, Ca, Cb, Cc, Cd, Ce, Cf, Cg, Ch, Ci, Cj, Ck, Cl, Cm, Cn, Co, Cp, Cq, Cr, Cs, Ct, Cu, Cv, Cw, Cy, Cz, Da, Db, Dc, De, Df, Dg, Dh, Di, Dj, Dk, Dl, Dm, Dn, Option.map_some, Dp, Dq, Dr, Dt, Du, Dv, Dw, Dx, Dy, Dz, Ea, Eb, Ec, Ed, Ee, Ef, Eg, Eh, Ei, Ej, Ek, El, Em, Eo, Ep, Er, Es, Et, Eu, Ev, Ew, Ey, Ez, Fa, Fb, Fc, Fe, Ff, Fg, Fh, Fj, Fl, Fm, Fp, Fq, Fs, Ft, Fu, Fv, Fw, Fx, Fy, Fz, Ga, Gb, Gc, Gd, Ge, Gf, Gg, Gh, Gi, Gj, Nat.reduceEqDiff, Nat.reduceAdd, Nat.reduceMul, Nat.reduceLT, Nat.reduceLeDiff, ↓reduceIte, Ml, Mm, Nat.reduceBEq, Mn, Mo, Mp, Mq, reduceCtorEq, Mr, Ms, Gk, Gl, Gm, Gn, Gp, Gq, Gr, Gs, Gt, Gu, Gv, Gw, Gx, Gy, Gz, Ha, Hb, Hc, Hd, He, Hf, Hg, Hh, Hj, Hk, Hl, Hm, Hn, Ho, Hq, Hr, Hs, Ht, Hu, Hv, Hw, Hy, Hz, Ia, Ib, Ic, Ie, Ig, Ih, Ii, Ij, Ik, Il, Im, Io, Ip, Iq, Ir, Iu, Iv, Iw, Iy, Iz, Ja, Jb, Jc, Jd, Je, Jf, Jg, Jh, Ji, Jj, Jk, Jl, Jm, Jn, Jo, Jp, Jq, Jr, Js, Jt, Ju, Jv, Jw, Jy, Jz, Ka, Kb, Kc, Ke, Kf, Kg, Kh, Ki, Kj, Kk, Kl, Km, Kn, Ko, Kq, Kr, Ks, Kt, Ku, Kv, Kw, Kx, Ky, Kz, La, Lb, Lc, Ld, Le, Lf, Lg, Lh, Li, Lj, Ll, Lm, Ln, Lp, and_self, true_and, and_true, Mt, Mu, Mv, Mw, Mx, My, Mz, Na, Nb, Nc, Nd, Nf, Ng, Nh, Int.reduceToNat, Int.reduceLT, Int.reduceEq, Int.reduceLE, List.getElem?_cons_zero, List.getElem?_cons_succ, Lr, Ls, Lt, Ni, Nj, Nk, Nl, gt_iff_lt, ge_iff_le, Lu, Lv, Lw, Lx, Ly, Ma, Nn, Np, Mb, Mc, Md, Me, Mf, Mg, Mh, Mi, Mj, Mk, Nq, Nr, dS_len, h1', decide_false, op_call_deep _ _ T.e243 rfl, hs, hlt']
        rw [r1]
        simp only [Aa, Ab, Ac, Ad, Ae, Af, Ag, Ah, Ai, Aj, Ak, Al, Am, Ao, Ap, Aq, Ar, Au, Av, Aw, Ay, Az, Ba, Bb, Bc, Bd, Be, Bf, Bg, Bh, Bi, Bj, Bk, Bl, Bm, Bn, Bo, Bp, Bq, Br, Bs, Bt, Bv, Bw, Bx, Bz, Ca, Cb, Cc, Cd, Ce, Cf, Cg, Ch, Ci, Cj, Ck, Cl, Cm, Cn, Co, Cp, Cq, Cr, Cs, Ct, Cu, Cv, Cw, Cy, Cz, Da, Db, Dc, De, Df, Dg, Dh, Di, Dj, Dk, Dl, Dm, Dn, Option.map_some, Dp, Dq, Dr, Dt, Du, Dv, Dw, Dx, Dy, Dz, Ea, Eb, Ec, Ed, Ee, Ef, Eg, Eh, Ei, Ej, Ek, El, Em, Eo, Ep, Er, Es, Et, Eu, Ev, Ew, Ey, Ez, Fa, Fb, Fc, Fe, Ff, Fg, Fh, Fj, Fl, Fm, Fp, Fq, Fs, Ft, Fu, Fv, Fw, Fx, Fy, Fz, Ga, Gb, Gc, Gd, Ge, Gf, Gg, Gh, Gi, Gj, Nat.reduceEqDiff, Nat.reduceAdd, Nat.reduceMul, Nat.reduceLT, Nat.reduceLeDiff, ↓reduceIte, Ml, Mm, Nat.reduceBEq, Mn, Mo, Mp, Mq, reduceCtorEq, Mr, Ms, Gk, Gl, Gm, Gn, Gp, Gq, Gr, Gs, Gt, Gu, Gv, Gw, Gx, Gy, Gz, Ha, Hb, Hc, Hd, He, Hf, Hg, Hh, Hj, Hk, Hl, Hm, Hn, Ho, Hq, Hr, Hs, Ht, Hu, Hv, Hw, Hy, Hz, Ia, Ib, Ic, Ie, Ig, Ih, Ii, Ij, Ik, Il, Im, Io, Ip, Iq, Ir, Iu, Iv, Iw, Iy, Iz, Ja, Jb, Jc, Jd, Je, Jf, Jg, Jh, Ji, Jj, Jk, Jl, Jm, Jn, Jo, Jp, Jq, Jr, Js, Jt, Ju, Jv, Jw, Jy, Jz, Ka, Kb, Kc, Ke, Kf, Kg, Kh, Ki, Kj, Kk, Kl, Km, Kn, Ko, Kq, Kr, Ks, Kt, Ku, Kv, Kw, Kx, Ky, Kz, La, Lb, Lc, Ld, Le, Lf, Lg, Lh, Li, Lj, Ll, Lm, Ln, Lp, and_self, true_and, and_true, Mt, Mu, Mv, Mw, Mx, My, Mz, Na, Nb, Nc, Nd, Nf, Ng, Nh, Int.reduceToNat, Int.reduceLT, Int.reduceEq, Int.reduceLE, List.getElem?_cons_zero, List.getElem?_cons_succ, Lr, Ls, Lt, Ni, Nj, Nk, Nl, gt_iff_lt, ge_iff_le, Lu, Lv, Lw, Lx, Ly, Ma, Nn, Np, Mb, Mc, Md, Me, Mf, Mg, Mh, Mi, Mj, Mk, Nq, Nr, r3]

theorem callo_regR {E : Env} {f : Nat} {g : Fun} (hn : E (f + ownOff) = none) (hE : E f = some g) (hd : g.isDeep = true) {as : List S} {l : List Q} (h : Gives E f as 4 (dS l)) :
    ∃ v hp', (∀ as', mapO (snapA []) as' = some as → ∀ (d : Nat) (os : List KO) (fr : Fr) (vars : Vars) (rd : List L), onR E (Call E) (some d) os ⟨fr, vars, []⟩ (calloR 0 rd (deepE E (Call E) (f + ownOff) as' [])) = runOps E (Call E) os ⟨(d, v) :: fr, vars, hp'⟩) ∧
      (∃ ff, rowBy (snapC true hp' depth) v = some (.list ff true (dS l))) ∧ S.outElem v = true := by
  obtain ⟨v, hv, hc⟩ := callo_deep hn hE hd h
  rcases hv with rfl | rfl
  · refine ⟨.own 0 (dS l).length 0 (dS l).length, [.rows true 4 (dS l)], fun as' ha d os fr vars rd => by rw [hc as' [] ha]; rfl, ⟨false, ?_⟩, rfl⟩
    rw [rowBy_own, snapC_own]
    simp only [List.getElem?_cons_zero]
    rw [ownO_atoms rfl (by simp) (dS_atom l)]
    simp only [List.drop_zero, List.take_length]
  · refine ⟨.list true true (dS l), [], fun as' ha d os fr vars rd => by rw [hc as' [] ha]; rfl, ⟨true, ?_⟩, rfl⟩
    simp only [rowBy_list, snapC_list]

theorem d_path236 {E : Env} (T : HasT E) (h236 : E 236 = some (.code c236)) (f p : Bool) (l : List Q) (i : Nat) (hl : l.length ≤ 256) (hi : i < l.length) :
    ∃ ff, ∀ hp, deepE E (Call E) 236 [.list f p (dS l), .int .i64 i] hp = some (.tup [.list ff true (dS (pathQ l.length l i)), .int .i64 0]) := by
  have hg := g_path248 T l.length f p l i (Nat.le_refl _) (by omega) hi
  obtain ⟨v, hp', h1, ⟨ff, h2⟩, h3⟩ := callo_regR T.n248 T.e248 rfl hg
  have h1' := h1 [.list f p (dS l), .int .i64 i] rfl
  refine ⟨ff, fun hp => ?_⟩
  rw [deep_code h236 rfl, deep_go]
  simp only [mapO_nil, mapO_cons, consO_some, snapA_list, snapA_int, goD_some]
  rw [Call_mk E h236 _ _ rfl]
  have c1 : ¬ (256 : Int) < (l.length : Int) := by omega
  have c2 : ¬ (i : Int) < 0 := by omega
  have c3 : ¬ (l.length : Int) ≤ (i : Int) := by omega
  simp only [Aa, Ab, Ac, Ad, Ae, Af, Ag, Ah, Ai, Aj, Ak, Al, Am, Ao, Ap, Aq, Ar, Au, Av, Aw, Ay, Az, Ba, Bb, Bc, Bd, Be, Bf, Bg, Bh, Bi, Bj, Bk, Bl, Bm, Bn, Bo, Bp, Bq, Br, Bs, Bt, Bv, Bw, Bx, Bz, Ca, Cb, Cc, Cd, Ce, Cf, Cg, Ch, Ci, Cj, Ck, Cl, Cm, Cn, Co, Cp, Cq, Cr, Cs, Ct, Cu, Cv, Cw, Cy, Cz, Da, Db, Dc, De, Df, Dg, Dh, Di, Dj, Dk, Dl, Dm, Dn, Option.map_some, Dp, Dq, Dr, Dt, Du, Dv, Dw, Dx, Dy, Dz, Ea, Eb, Ec, Ed, Ee, Ef, Eg, Eh, Ei, Ej, Ek, El, Em, Eo, Ep, Er, Es, Et, Eu, Ev, Ew, Ey, Ez, Fa, Fb, Fc, Fe, Ff, Fg, Fh, Fj, Fl, Fm, Fp, Fq, Fs, Ft, Fu, Fv, Fw, Fx, Fy, Fz, Ga, Gb, Gc, Gd, Ge, Gf, Gg, Gh, Gi, Gj, Nat.reduceEqDiff, Nat.reduceAdd, Nat.reduceMul, Nat.reduceLT, Nat.reduceLeDiff, ↓reduceIte, Ml, Mm, Nat.reduceBEq, Mn, Mo, Mp, Mq, reduceCtorEq, Mr, Ms, Gk, Gl, Gm, Gn, Gp, Gq, Gr, Gs, Gt, Gu, Gv, Gw, Gx, Gy, Gz, Ha, Hb, Hc, Hd, He, Hf, Hg, Hh, Hj, Hk, Hl, Hm, Hn, Ho, Hq, Hr, Hs, Ht, Hu, Hv, Hw, Hy, Hz, Ia, Ib, Ic, Ie, Ig, Ih, Ii, Ij, Ik, Il, Im, Io, Ip, Iq, Ir, Iu, Iv, Iw, Iy, Iz, Ja, Jb, Jc, Jd, Je, Jf, Jg, Jh, Ji, Jj, Jk, Jl, Jm, Jn, Jo, Jp, Jq, Jr, Js, Jt, Ju, Jv, Jw, Jy, Jz, Ka, Kb, Kc, Ke, Kf, Kg, Kh, Ki, Kj, Kk, Kl, Km, Kn, Ko, Kq, Kr, Ks, Kt, Ku, Kv, Kw, Kx, Ky, Kz, La, Lb, Lc, Ld, Le, Lf, Lg, Lh, Li, Lj, Ll, Lm, Ln, Lp, and_self, true_and, and_true, Mt, Mu, Mv, Mw, Mx, My, Mz, Na, Nb, Nc, Nd, Nf, Ng, Nh, Int.reduceToNat, Int.reduceLT, Int.reduceEq, Int.reduceLE, List.getElem?_cons_zero, List.getElem?_cons_succ, Lr, Ls, Lt, Ni, Nj, Nk, Nl, gt_iff_lt, ge_iff_le, Lu, Lv, Lw, Lx, Ly, Ma, Nn, Np, Mb, Mc, Md, Me, Mf, Mg, Mh, Mi, Mj, Mk, Nq, Nr, dS_len, c1, c2, c3, decide_false, op_callo, h1', h3, h2]

/-! Proofs of consistency. -/
def conQ : Nat → List Q → Nat → Bool → List Q
  | 0, _, _, _ => []
  | m + 1, l, i, b =>
    if i = l.length then (if b then [] else [rt l]) else
    if i ≤ spl l.length then conQ m (l.take (spl l.length)) i b ++ [rt (l.drop (spl l.length))]
    else conQ m (l.drop (spl l.length)) (i - spl l.length) false ++ [rt (l.take (spl l.length))]

theorem conQ_len : ∀ (m : Nat) (l : List Q) (i : Nat) (b : Bool), (conQ m l i b).length ≤ m
  | 0, _, _, _ => Nat.le_refl _
  | m + 1, l, i, b => by
    rw [conQ]
    split
    · split <;> simp
    · split <;> simp [conQ_len m]

theorem g_con252 {E : Env} (T : HasT E) : ∀ (m : Nat) (f p : Bool) (l : List Q) (i : Nat) (b : Bool), l.length ≤ m → m ≤ 1000 → 1 ≤ i → i ≤ l.length → Gives E 252 [.list f p (dS l), .int .i64 i, .bool b] 4 (dS (conQ m l i b))
  | 0, f, p, l, i, b, h, _, hi, hi' => by omega
  | m + 1, f, p, l, i, b, h, hm, hi, hi' => by
    have hs := fun hp => d_split243 T.e243 l.length (by omega) hp
    have hro := fun f p hp => d_rt239 T.toHasW T.e238 T.e243 T.e239 f p l hp (by omega)
    by_cases h1 : i = l.length
    · have h1' : (i : Int) = (l.length : Int) := by omega
      rw [conQ, if_pos h1]
      cases b with
      | true =>
        refine ⟨.list true true [], [], .list true true [], ?_, rfl, .inr rfl⟩
        rw [Call_mk E T.e252 _ _ rfl]
        simp only [Aa, Ab, Ac, Ad, Ae, Af, Ag, Ah, Ai, Aj, Ak, Al, Am, Ao, Ap, Aq, Ar, Au, Av, Aw, Ay, Az, Ba, Bb, Bc, Bd, Be, Bf, Bg, Bh, Bi, Bj, Bk, Bl, Bm, Bn, Bo, Bp, Bq, Br, Bs, Bt, Bv, Bw, Bx, Bz, Ca, Cb, Cc, Cd, Ce, Cf, Cg, Ch, Ci, Cj, Ck, Cl, Cm, Cn, Co, Cp, Cq, Cr, Cs, Ct, Cu, Cv, Cw, Cy, Cz, Da, Db, Dc, De, Df, Dg, Dh, Di, Dj, Dk, Dl, Dm, Dn, Option.map_some, Dp, Dq, Dr, Dt, Du, Dv, Dw, Dx, Dy, Dz, Ea, Eb, Ec, Ed, Ee, Ef, Eg, Eh, Ei, Ej, Ek, El, Em, Eo, Ep, Er, Es, Et, Eu, Ev, Ew, Ey, Ez, Fa, Fb, Fc, Fe, Ff, Fg, Fh, Fj, Fl, Fm, Fp, Fq, Fs, Ft, Fu, Fv, Fw, Fx, Fy, Fz, Ga, Gb, Gc, Gd, Ge, Gf, Gg, Gh, Gi, Gj, Nat.reduceEqDiff, Nat.reduceAdd, Nat.reduceMul, Nat.reduceLT, Nat.reduceLeDiff, ↓reduceIte, Ml, Mm, Nat.reduceBEq, Mn, Mo, Mp, Mq, reduceCtorEq, Mr, Ms, Gk, Gl, Gm, Gn, Gp, Gq, Gr, Gs, Gt, Gu, Gv, Gw, Gx, Gy, Gz, Ha, Hb, Hc, Hd, He, Hf, Hg, Hh, Hj, Hk, Hl, Hm, Hn, Ho, Hq, Hr, Hs, Ht, Hu, Hv, Hw, Hy, Hz, Ia, Ib, Ic, Ie, Ig, Ih, Ii, Ij, Ik, Il, Im, Io, Ip, Iq, Ir, Iu, Iv, Iw, Iy, Iz, Ja, Jb, Jc, Jd, Je, Jf, Jg, Jh, Ji, Jj, Jk, Jl, Jm, Jn, Jo, Jp, Jq, Jr, Js, Jt, Ju, Jv, Jw, Jy, Jz, Ka, Kb, Kc, Ke, Kf, Kg, Kh, Ki, Kj, Kk, Kl, Km, Kn, Ko, Kq, Kr, Ks, Kt, Ku, Kv, Kw, Kx, Ky, Kz, La, Lb, Lc, Ld, Le, Lf, Lg, Lh, Li, Lj, Ll, Lm, Ln, Lp, and_self, true_and, and_true, Mt, Mu, Mv, Mw, Mx, My, Mz, Na, Nb, Nc, Nd, Nf, Ng, Nh, Int.reduceToNat, Int.reduceLT, Int.reduceEq, Int.reduceLE, List.getElem?_cons_zero, List.getElem?_cons_succ, Lr, Ls, Lt, Ni, Nj, Nk, Nl, gt_iff_lt, ge_iff_le, Lu, Lv, Lw, Lx, Ly, Ma, Nn, Np, Mb, Mc, Md, Me, Mf, Mg, Mh, Mi, Mj, Mk, Nq, Nr, dS_len, h1', decide_true, op_call_deep _ _ T.e243 rfl, hs]
      | false =>
        refine ⟨.list true true [(rt l).s], [], .list true true [(rt l).s], ?_, rfl, .inr rfl⟩
        rw [Call_mk E T.e252 _ _ rfl]
        have hlit : litS 4 (.agg [.int .u32 0, .int .u32 0, .int .u32 0, .int .u32 0]) 1 [(0, (rt l).s)] = some (.list true true [(rt l).s]) := rfl
        simp only [Q.s] at hro hlit ⊢
        simp only [Aa, Ab, Ac, Ad, Ae, Af, Ag, Ah, Ai, Aj, Ak, Al, Am, Ao, Ap, Aq, Ar, Au, Av, Aw, Ay, Az, Ba, Bb, Bc, Bd, Be, Bf, Bg, Bh, Bi, Bj, Bk, Bl, Bm, Bn, Bo, Bp, Bq, Br, Bs, Bt, Bv, Bw, Bx, Bz, Ca, Cb, Cc, Cd, Ce, Cf, Cg, Ch, Ci, Cj, Ck, Cl, Cm, Cn, Co, Cp, Cq, Cr, Cs, Ct, Cu, Cv, Cw, Cy, Cz, Da, Db, Dc, De, Df, Dg, Dh, Di, Dj, Dk, Dl, Dm, Dn, Option.map_some, Dp, Dq, Dr, Dt, Du, Dv, Dw, Dx, Dy, Dz, Ea, Eb, Ec, Ed, Ee, Ef, Eg, Eh, Ei, Ej, Ek, El, Em, Eo, Ep, Er, Es, Et, Eu, Ev, Ew, Ey, Ez, Fa, Fb, Fc, Fe, Ff, Fg, Fh, Fj, Fl, Fm, Fp, Fq, Fs, Ft, Fu, Fv, Fw, Fx, Fy, Fz, Ga, Gb, Gc, Gd, Ge, Gf, Gg, Gh, Gi, Gj, Nat.reduceEqDiff, Nat.reduceAdd, Nat.reduceMul, Nat.reduceLT, Nat.reduceLeDiff, ↓reduceIte, Ml, Mm, Nat.reduceBEq, Mn, Mo, Mp, Mq, reduceCtorEq, Mr, Ms, Gk, Gl, Gm, Gn, Gp, Gq, Gr, Gs, Gt, Gu, Gv, Gw, Gx, Gy, Gz, Ha, Hb, Hc, Hd, He, Hf, Hg, Hh, Hj, Hk, Hl, Hm, Hn, Ho, Hq, Hr, Hs, Ht, Hu, Hv, Hw, Hy, Hz, Ia, Ib, Ic, Ie, Ig, Ih, Ii, Ij, Ik, Il, Im, Io, Ip, Iq, Ir, Iu, Iv, Iw, Iy, Iz, Ja, Jb, Jc, Jd, Je, Jf, Jg, Jh, Ji, Jj, Jk, Jl, Jm, Jn, Jo, Jp, Jq, Jr, Js, Jt, Ju, Jv, Jw, Jy, Jz, Ka, Kb, Kc, Ke, Kf, Kg, Kh, Ki, Kj, Kk, Kl, Km, Kn, Ko, Kq, Kr, Ks, Kt, Ku, Kv, Kw, Kx, Ky, Kz, La, Lb, Lc, Ld, Le, Lf, Lg, Lh, Li, Lj, Ll, Lm, Ln, Lp, and_self, true_and, and_true, Mt, Mu, Mv, Mw, Mx, My, Mz, Na, Nb, Nc, Nd, Nf, Ng, Nh, Int.reduceToNat, Int.reduceLT, Int.reduceEq, Int.reduceLE, List.getElem?_cons_zero, List.getElem?_cons_succ, Lr, Ls, Lt, Ni, Nj, Nk, Nl, gt_iff_lt, ge_iff_le, Lu, Lv, Lw, Lx, Ly, Ma, Nn, Np, Mb, Mc, Md, Me, Mf, Mg, Mh, Mi, Mj, Mk, Nq, Nr, dS_len, h1', decide_true, op_call_deep _ _ T.e243 rfl, hs, op_call_deep _ _ T.e239 rfl, hro]
    · have h1' : ¬ (i : Int) = (l.length : Int) := by omega
      have hb := spl_bd (n := l.length) (by omega)
      rw [conQ, if_neg h1]
      by_cases hlt : i ≤ spl l.length
      · rw [if_pos hlt]
        have hlt' : (i : Int) ≤ ((spl l.length : Nat) : Int) := by omega
        have ih := fun f' => g_con252 T m f' p (l.take (spl l.length)) i b (by rw [List.length_take]; omega) (by omega) hi (by rw [List.length_take]; omega)
        have hreg := fun fr g0 g1 gk g2 => reg_d252_0 T f p l (spl l.length) i b (by omega) (by omega) (conQ m (l.take (spl l.length)) i b) (by have := conQ_len m (l.take (spl l.length)) i b; omega) fr g0 g1 gk g2 ih
        obtain ⟨fr', hp', v, r1, r2, r3⟩ := hreg [(40, .bool true), (43, .bool true), (42, .int .i64 (spl l.length : Nat)), (41, .int .i64 i), (32, .bool false), (36, .bool false), (35, .int .i64 (l.length : Nat)), (34, .list f p (dS l)), (33, .int .i64 i), (24, .bool false), (31, .bool false), (30, .skip), (29, .bool false), (28, .bool false), (27, .int .i64 (l.length : Nat)), (26, .list f p (dS l)), (25, .int .i64 i), (7, .int .i64 (spl l.length : Nat)), (10, .int .i64 (spl l.length : Nat)), (9, .int .i64 (l.length : Nat)), (8, .list f p (dS l)), (6, .list true true []), (0, .list f p (dS l)), (1, .int .i64 i), (2, .bool b)] rfl rfl rfl rfl
        refine ⟨v, hp', _, ?_, r2, .inl rfl⟩
        rw [Call_mk E T.e252 _ _ rfl]
        simp only [Aa, Ab, Ac, Ad, Ae, Af, Ag, Ah, Ai, Aj, Ak, Al, Am, Ao, Ap, Aq, Ar, Au, Av, Aw, Ay, Az, Ba, Bb, Bc, Bd, Be, Bf, Bg, Bh, Bi, Bj, Bk, Bl, Bm, Bn, Bo, Bp, Bq, Br, Bs, Bt, Bv, Bw, Bx, Bz, Ca, Cb, Cc, Cd, Ce, Cf, Cg, Ch, Ci, Cj, Ck, Cl, Cm, Cn, Co, Cp, Cq, Cr, Cs, Ct, Cu, Cv, Cw, Cy, Cz, Da, Db, Dc, De, Df, Dg, Dh, Di, Dj, Dk, Dl, Dm, Dn, Option.map_some, Dp, Dq, Dr, Dt, Du, Dv, Dw, Dx, Dy, Dz, Ea, Eb, Ec, Ed, Ee, Ef, Eg, Eh, Ei, Ej, Ek, El, Em, Eo, Ep, Er, Es, Et, Eu, Ev, Ew, Ey, Ez, Fa, Fb, Fc, Fe, Ff, Fg, Fh, Fj, Fl, Fm, Fp, Fq, Fs, Ft, Fu, Fv, Fw, Fx, Fy, Fz, Ga, Gb, Gc, Gd, Ge, Gf, Gg, Gh, Gi, Gj, Nat.reduceEqDiff, Nat.reduceAdd, Nat.reduceMul, Nat.reduceLT, Nat.reduceLeDiff, ↓reduceIte, Ml, Mm, Nat.reduceBEq, Mn, Mo, Mp, Mq, reduceCtorEq, Mr, Ms, Gk, Gl, Gm, Gn, Gp, Gq, Gr, Gs, Gt, Gu, Gv, Gw, Gx, Gy, Gz, Ha, Hb, Hc, Hd, He, Hf, Hg, Hh, Hj, Hk, Hl, Hm, Hn, Ho, Hq, Hr, Hs, Ht, Hu, Hv, Hw, Hy, Hz, Ia, Ib, Ic, Ie, Ig, Ih, Ii, Ij, Ik, Il, Im, Io, Ip, Iq, Ir, Iu, Iv, Iw, Iy, Iz, Ja, Jb, Jc, Jd, Je, Jf, Jg, Jh, Ji, Jj, Jk, Jl, Jm, Jn, Jo, Jp, Jq, Jr, Js, Jt, Ju, Jv, Jw, Jy, Jz, Ka, Kb, Kc, Ke, Kf, Kg, Kh, Ki, Kj, Kk, Kl, Km, Kn, Ko, Kq, Kr, Ks, Kt, Ku, Kv, Kw, Kx, Ky, Kz, La, Lb, Lc, Ld, Le, Lf, Lg, Lh, Li, Lj, Ll, Lm, Ln, Lp, and_self, true_and, and_true, Mt, Mu, Mv, Mw, Mx, My, Mz, Na, Nb, Nc, Nd, Nf, Ng, Nh, Int.reduceToNat, Int.reduceLT, Int.reduceEq, Int.reduceLE, List.getElem?_cons_zero, List.getElem?_cons_succ, Lr, Ls, Lt, Ni, Nj, Nk, Nl, gt_iff_lt, ge_iff_le, Lu, Lv, Lw, Lx, Ly, Ma, Nn, Np, Mb, Mc, Md, Me, Mf, Mg, Mh, Mi, Mj, Mk, Nq, Nr, dS_len, h1', decide_false, op_call_deep _ _ T.e243 rfl, hs, hlt', decide_true]
        rw [r1]
        simp only [Aa, Ab, Ac, Ad, Ae, Af, Ag, Ah, Ai, Aj, Ak, Al, Am, Ao, Ap, Aq, Ar, Au, Av, Aw, Ay, Az, Ba, Bb, Bc, Bd, Be, Bf, Bg, Bh, Bi, Bj, Bk, Bl, Bm, Bn, Bo, Bp, Bq, Br, Bs, Bt, Bv, Bw, Bx, Bz, Ca, Cb, Cc, Cd, Ce, Cf, Cg, Ch, Ci, Cj, Ck, Cl, Cm, Cn, Co, Cp, Cq, Cr, Cs, Ct, Cu, Cv, Cw, Cy, Cz, Da, Db, Dc, De, Df, Dg, Dh, Di, Dj, Dk, Dl, Dm, Dn, Option.map_some, Dp, Dq, Dr, Dt, Du, Dv, Dw, Dx, Dy, Dz, Ea, Eb, Ec, Ed, Ee, Ef, Eg, Eh, Ei, Ej, Ek, El, Em, Eo, Ep, Er, Es, Et, Eu, Ev, Ew, Ey, Ez, Fa, Fb, Fc, Fe, Ff, Fg, Fh, Fj, Fl, Fm, Fp, Fq, Fs, Ft, Fu, Fv, Fw, Fx, Fy, Fz, Ga, Gb, Gc, Gd, Ge, Gf, Gg, Gh, Gi, Gj, Nat.reduceEqDiff, Nat.reduceAdd, Nat.reduceMul, Nat.reduceLT, Nat.reduceLeDiff, ↓reduceIte, Ml, Mm, Nat.reduceBEq, Mn, Mo, Mp, Mq, reduceCtorEq, Mr, Ms, Gk, Gl, Gm, Gn, Gp, Gq, Gr, Gs, Gt, Gu, Gv, Gw, Gx, Gy, Gz, Ha, Hb, Hc, Hd, He, Hf, Hg, Hh, Hj, Hk, Hl, Hm, Hn, Ho, Hq, Hr, Hs, Ht, Hu, Hv, Hw, Hy, Hz, Ia, Ib, Ic, Ie, Ig, Ih, Ii, Ij, Ik, Il, Im, Io, Ip, Iq, Ir, Iu, Iv, Iw, Iy, Iz, Ja, Jb, Jc, Jd, Je, Jf, Jg, Jh, Ji, Jj, Jk, Jl, Jm, Jn, Jo, Jp, Jq, Jr, Js, Jt, Ju, Jv, Jw, Jy, Jz, Ka, Kb, Kc, Ke, Kf, Kg, Kh, Ki, Kj, Kk, Kl, Km, Kn, Ko, Kq, Kr, Ks, Kt, Ku, Kv, Kw, Kx, Ky, Kz, La, Lb, Lc, Ld, Le, Lf, Lg, Lh, Li, Lj, Ll, Lm, Ln, Lp, and_self, true_and, and_true, Mt, Mu, Mv, Mw, Mx, My, Mz, Na, Nb, Nc, Nd, Nf, Ng, Nh, Int.reduceToNat, Int.reduceLT, Int.reduceEq, Int.reduceLE, List.getElem?_cons_zero, List.getElem?_cons_succ, Lr, Ls, Lt, Ni, Nj, Nk, Nl, gt_iff_lt, ge_iff_le, Lu, Lv, Lw, Lx, Ly, Ma, Nn, Np, Mb, Mc, Md, Me, Mf, Mg, Mh, Mi, Mj, Mk, Nq, Nr, r3]
      · rw [if_neg hlt]
        have hlt' : ¬ (i : Int) ≤ ((spl l.length : Nat) : Int) := by omega
        have hsub : binS .sub (.int .i64 i) (.int .i64 (spl l.length : Nat)) = some (.int .i64 ((i - spl l.length : Nat) : Int)) := by
          rw [binS_sub, show (i : Int) - (spl l.length : Nat) = ((i - spl l.length : Nat) : Int) by omega, wrap_i64 (by omega) (by omega)]
        have ih := fun f' => g_con252 T m f' p (l.drop (spl l.length)) (i - spl l.length) false (by rw [List.length_drop]; omega) (by omega) (by omega) (by rw [List.length_drop]; omega)
        have hreg := fun fr g0 g1 gk => reg_d252_1 T f p l (spl l.length) i (by omega) (by omega) (conQ m (l.drop (spl l.length)) (i - spl l.length) false) (by have := conQ_len m (l.drop (spl l.length)) (i - spl l.length) false; omega) fr g0 g1 gk _ hsub ih
        obtain ⟨fr', hp', v, r1, r2, r3⟩ := hreg [(40, .bool false), (43, .bool false), (42, .int .i64 (spl l.length : Nat)), (41, .int .i64 i), (32, .bool false), (36, .bool false), (35, .int .i64 (l.length : Nat)), (34, .list f p (dS l)), (33, .int .i64 i), (24, .bool false), (31, .bool false), (30, .skip), (29, .bool false), (28, .bool false), (27, .int .i64 (l.length : Nat)), (26, .list f p (dS l)), (25, .int .i64 i), (7, .int .i64 (spl l.length : Nat)), (10, .int .i64 (spl l.length : Nat)), (9, .int .i64 (l.length : Nat)), (8, .list f p (dS l)), (6, .list true true []), (0, .list f p (dS l)), (1, .int .i64 i), (2, .bool b)] rfl rfl rfl
        refine ⟨v, hp', _, ?_, r2, .inl rfl⟩
        rw [Call_mk E T.e252 _ _ rfl]
        simp only [Aa, Ab, Ac, Ad, Ae, Af, Ag, Ah, Ai, Aj, Ak, Al, Am, Ao, Ap, Aq, Ar, Au, Av, Aw, Ay, Az, Ba, Bb, Bc, Bd, Be, Bf, Bg, Bh, Bi, Bj, Bk, Bl, Bm, Bn, Bo, Bp, Bq, Br, Bs, Bt, Bv, Bw, Bx, Bz, Ca, Cb, Cc, Cd, Ce, Cf, Cg, Ch, Ci, Cj, Ck, Cl, Cm, Cn, Co, Cp, Cq, Cr, Cs, Ct, Cu, Cv, Cw, Cy, Cz, Da, Db, Dc, De, Df, Dg, Dh, Di, Dj, Dk, Dl, Dm, Dn, Option.map_some, Dp, Dq, Dr, Dt, Du, Dv, Dw, Dx, Dy, Dz, Ea, Eb, Ec, Ed, Ee, Ef, Eg, Eh, Ei, Ej, Ek, El, Em, Eo, Ep, Er, Es, Et, Eu, Ev, Ew, Ey, Ez, Fa, Fb, Fc, Fe, Ff, Fg, Fh, Fj, Fl, Fm, Fp, Fq, Fs, Ft, Fu, Fv, Fw, Fx, Fy, Fz, Ga, Gb, Gc, Gd, Ge, Gf, Gg, Gh, Gi, Gj, Nat.reduceEqDiff, Nat.reduceAdd, Nat.reduceMul, Nat.reduceLT, Nat.reduceLeDiff, ↓reduceIte, Ml, Mm, Nat.reduceBEq, Mn, Mo, Mp, Mq, reduceCtorEq, Mr, Ms, Gk, Gl, Gm, Gn, Gp, Gq, Gr, Gs, Gt, Gu, Gv, Gw, Gx, Gy, Gz, Ha, Hb, Hc, Hd, He, Hf, Hg, Hh, Hj, Hk, Hl, Hm, Hn, Ho, Hq, Hr, Hs, Ht, Hu, Hv, Hw, Hy, Hz, Ia, Ib, Ic, Ie, Ig, Ih, Ii, Ij, Ik, Il, Im, Io, Ip, Iq, Ir, Iu, Iv, Iw, Iy, Iz, Ja, Jb, Jc, Jd, Je, Jf, Jg, Jh, Ji, Jj, Jk, Jl, Jm, Jn, Jo, Jp, Jq, Jr, Js, Jt, Ju, Jv, Jw, Jy, Jz, Ka, Kb, Kc, Ke, Kf, Kg, Kh, Ki, Kj, Kk, Kl, Km, Kn, Ko, Kq, Kr, Ks, Kt, Ku, Kv, Kw, Kx, Ky, Kz, La, Lb, Lc, Ld, Le, Lf, Lg, Lh, Li, Lj, Ll, Lm, Ln, Lp, and_self, true_and, and_true, Mt, Mu, Mv, Mw, Mx, My, Mz, Na, Nb, Nc, Nd, Nf, Ng, Nh, Int.reduceToNat, Int.reduceLT, Int.reduceEq, Int.reduceLE, List.getElem?_cons_zero, List.getElem?_cons_succ, Lr, Ls, Lt, Ni, Nj, Nk, Nl, gt_iff_lt, ge_iff_le, Lu, Lv, Lw, Lx, Ly, Ma, Nn, Np, Mb, Mc, Md, Me, Mf, Mg, Mh, Mi, Mj, Mk, Nq, Nr, dS_len, h1', decide_false, op_call_deep _ _ T.e243 rfl, hs, hlt']
        rw [r1]
        simp only [Aa, Ab, Ac, Ad, Ae, Af, Ag, Ah, Ai, Aj, Ak, Al, Am, Ao, Ap, Aq, Ar, Au, Av, Aw, Ay, Az, Ba, Bb, Bc, Bd, Be, Bf, Bg, Bh, Bi, Bj, Bk, Bl, Bm, Bn, Bo, Bp, Bq, Br, Bs, Bt, Bv, Bw, Bx, Bz, Ca, Cb, Cc, Cd, Ce, Cf, Cg, Ch, Ci, Cj, Ck, Cl, Cm, Cn, Co, Cp, Cq, Cr, Cs, Ct, Cu, Cv, Cw, Cy, Cz, Da, Db, Dc, De, Df, Dg, Dh, Di, Dj, Dk, Dl, Dm, Dn, Option.map_some, Dp, Dq, Dr, Dt, Du, Dv, Dw, Dx, Dy, Dz, Ea, Eb, Ec, Ed, Ee, Ef, Eg, Eh, Ei, Ej, Ek, El, Em, Eo, Ep, Er, Es, Et, Eu, Ev, Ew, Ey, Ez, Fa, Fb, Fc, Fe, Ff, Fg, Fh, Fj, Fl, Fm, Fp, Fq, Fs, Ft, Fu, Fv, Fw, Fx, Fy, Fz, Ga, Gb, Gc, Gd, Ge, Gf, Gg, Gh, Gi, Gj, Nat.reduceEqDiff, Nat.reduceAdd, Nat.reduceMul, Nat.reduceLT, Nat.reduceLeDiff, ↓reduceIte, Ml, Mm, Nat.reduceBEq, Mn, Mo, Mp, Mq, reduceCtorEq, Mr, Ms, Gk, Gl, Gm, Gn, Gp, Gq, Gr, Gs, Gt, Gu, Gv, Gw, Gx, Gy, Gz, Ha, Hb, Hc, Hd, He, Hf, Hg, Hh, Hj, Hk, Hl, Hm, Hn, Ho, Hq, Hr, Hs, Ht, Hu, Hv, Hw, Hy, Hz, Ia, Ib, Ic, Ie, Ig, Ih, Ii, Ij, Ik, Il, Im, Io, Ip, Iq, Ir, Iu, Iv, Iw, Iy, Iz, Ja, Jb, Jc, Jd, Je, Jf, Jg, Jh, Ji, Jj, Jk, Jl, Jm, Jn, Jo, Jp, Jq, Jr, Js, Jt, Ju, Jv, Jw, Jy, Jz, Ka, Kb, Kc, Ke, Kf, Kg, Kh, Ki, Kj, Kk, Kl, Km, Kn, Ko, Kq, Kr, Ks, Kt, Ku, Kv, Kw, Kx, Ky, Kz, La, Lb, Lc, Ld, Le, Lf, Lg, Lh, Li, Lj, Ll, Lm, Ln, Lp, and_self, true_and, and_true, Mt, Mu, Mv, Mw, Mx, My, Mz, Na, Nb, Nc, Nd, Nf, Ng, Nh, Int.reduceToNat, Int.reduceLT, Int.reduceEq, Int.reduceLE, List.getElem?_cons_zero, List.getElem?_cons_succ, Lr, Ls, Lt, Ni, Nj, Nk, Nl, gt_iff_lt, ge_iff_le, Lu, Lv, Lw, Lx, Ly, Ma, Nn, Np, Mb, Mc, Md, Me, Mf, Mg, Mh, Mi, Mj, Mk, Nq, Nr, r3]

theorem d_con244 {E : Env} (T : HasT E) (h244 : E 244 = some (.code c244)) (f p : Bool) (l : List Q) (i : Nat) (hl : l.length ≤ 256) (hi : 1 ≤ i) (hi' : i ≤ l.length) :
    ∃ ff, ∀ hp, deepE E (Call E) 244 [.list f p (dS l), .int .i64 i] hp = some (.tup [.list ff true (dS (conQ l.length l i true)), .int .i64 0]) := by
  have hg := g_con252 T l.length f p l i true (Nat.le_refl _) (by omega) hi hi'
  obtain ⟨v, hp', h1, ⟨ff, h2⟩, h3⟩ := callo_regR T.n252 T.e252 rfl hg
  have h1' := h1 [.list f p (dS l), .int .i64 i, .bool true] rfl
  refine ⟨ff, fun hp => ?_⟩
  rw [deep_code h244 rfl, deep_go]
  simp only [mapO_nil, mapO_cons, consO_some, snapA_list, snapA_int, goD_some]
  rw [Call_mk E h244 _ _ rfl]
  have c1 : ¬ (256 : Int) < (l.length : Int) := by omega
  have c2 : ¬ (i : Int) < 1 := by omega
  have c3 : ¬ (l.length : Int) < (i : Int) := by omega
  simp only [Aa, Ab, Ac, Ad, Ae, Af, Ag, Ah, Ai, Aj, Ak, Al, Am, Ao, Ap, Aq, Ar, Au, Av, Aw, Ay, Az, Ba, Bb, Bc, Bd, Be, Bf, Bg, Bh, Bi, Bj, Bk, Bl, Bm, Bn, Bo, Bp, Bq, Br, Bs, Bt, Bv, Bw, Bx, Bz, Ca, Cb, Cc, Cd, Ce, Cf, Cg, Ch, Ci, Cj, Ck, Cl, Cm, Cn, Co, Cp, Cq, Cr, Cs, Ct, Cu, Cv, Cw, Cy, Cz, Da, Db, Dc, De, Df, Dg, Dh, Di, Dj, Dk, Dl, Dm, Dn, Option.map_some, Dp, Dq, Dr, Dt, Du, Dv, Dw, Dx, Dy, Dz, Ea, Eb, Ec, Ed, Ee, Ef, Eg, Eh, Ei, Ej, Ek, El, Em, Eo, Ep, Er, Es, Et, Eu, Ev, Ew, Ey, Ez, Fa, Fb, Fc, Fe, Ff, Fg, Fh, Fj, Fl, Fm, Fp, Fq, Fs, Ft, Fu, Fv, Fw, Fx, Fy, Fz, Ga, Gb, Gc, Gd, Ge, Gf, Gg, Gh, Gi, Gj, Nat.reduceEqDiff, Nat.reduceAdd, Nat.reduceMul, Nat.reduceLT, Nat.reduceLeDiff, ↓reduceIte, Ml, Mm, Nat.reduceBEq, Mn, Mo, Mp, Mq, reduceCtorEq, Mr, Ms, Gk, Gl, Gm, Gn, Gp, Gq, Gr, Gs, Gt, Gu, Gv, Gw, Gx, Gy, Gz, Ha, Hb, Hc, Hd, He, Hf, Hg, Hh, Hj, Hk, Hl, Hm, Hn, Ho, Hq, Hr, Hs, Ht, Hu, Hv, Hw, Hy, Hz, Ia, Ib, Ic, Ie, Ig, Ih, Ii, Ij, Ik, Il, Im, Io, Ip, Iq, Ir, Iu, Iv, Iw, Iy, Iz, Ja, Jb, Jc, Jd, Je, Jf, Jg, Jh, Ji, Jj, Jk, Jl, Jm, Jn, Jo, Jp, Jq, Jr, Js, Jt, Ju, Jv, Jw, Jy, Jz, Ka, Kb, Kc, Ke, Kf, Kg, Kh, Ki, Kj, Kk, Kl, Km, Kn, Ko, Kq, Kr, Ks, Kt, Ku, Kv, Kw, Kx, Ky, Kz, La, Lb, Lc, Ld, Le, Lf, Lg, Lh, Li, Lj, Ll, Lm, Ln, Lp, and_self, true_and, and_true, Mt, Mu, Mv, Mw, Mx, My, Mz, Na, Nb, Nc, Nd, Nf, Ng, Nh, Int.reduceToNat, Int.reduceLT, Int.reduceEq, Int.reduceLE, List.getElem?_cons_zero, List.getElem?_cons_succ, Lr, Ls, Lt, Ni, Nj, Nk, Nl, gt_iff_lt, ge_iff_le, Lu, Lv, Lw, Lx, Ly, Ma, Nn, Np, Mb, Mc, Md, Me, Mf, Mg, Mh, Mi, Mj, Mk, Nq, Nr, dS_len, c1, c2, c3, decide_false, op_callo, h1', h3, h2]
end Go.Proofs.Ytkafliflpplpeaa.Sim
namespace Go.Proofs.Ytkafliflpplpeaa.Sim
set_option linter.unusedSimpArgs false
set_option linter.unusedVariables false
open Go
set_option maxRecDepth 100000
set_option linter.unusedSimpArgs false

/-- How long a path is. -/
def dep : Nat → Nat → Nat → Nat
  | 0, _, _ => 0
  | m + 1, n, i => if n = 1 then 0 else if i < spl n then dep m (spl n) i + 1 else dep m (n - spl n) (i - spl n) + 1

/-- Where it leads. -/
def leadQ : Nat → Q → Nat → Nat → List Q → Q
  | 0, x, _, _, _ => x
  | m + 1, x, i, n, P =>
    if n = 1 then x else
    if i < spl n then joinQ (leadQ m x i (spl n) (P.take (P.length - 1))) (P.getD (P.length - 1) ⟨0, 0, 0, 0⟩)
    else joinQ (P.getD (P.length - 1) ⟨0, 0, 0, 0⟩) (leadQ m x (i - spl n) (n - spl n) (P.take (P.length - 1)))

theorem dep_le : ∀ (m n i : Nat), dep m n i ≤ m
  | 0, _, _ => Nat.le_refl _
  | m + 1, n, i => by
    rw [dep]
    split
    · omega
    · split <;> have := dep_le m <;> simp [dep_le]

theorem iaddr_dS {hp : Hp} {f p : Bool} {P : List Q} {j : Nat} (h : j < P.length) : iaddrS hp 4 (.list f p (dS P)) (.int .i64 (j : Int)) = some (.rptr [.int .u32 (P.getD j ⟨0, 0, 0, 0⟩).a, .int .u32 (P.getD j ⟨0, 0, 0, 0⟩).b, .int .u32 (P.getD j ⟨0, 0, 0, 0⟩).c, .int .u32 (P.getD j ⟨0, 0, 0, 0⟩).d] 0) := by
  have h1 : (dS P)[j]? = some (P.getD j ⟨0, 0, 0, 0⟩).s := by rw [dS_get (x := P[j]) (List.getElem?_eq_getElem h)]; simp [List.getD, h]
  rw [iaddrS_list, if_pos (by omega)]
  simp only [Int.toNat_natCast, h1, elemAt_some, Q.s, S.cells]
  rfl

theorem d_lead249 {E : Env} (T : HasT E) (h249 : E 249 = some (.code c249)) : ∀ (m : Nat) (x : Q) (i n : Nat) (f p : Bool) (P : List Q) (hp : Hp), n ≤ m → m ≤ 1000 → i < n → P.length = dep m n i →
    deepE E (Call E) 249 [x.s, .int .i64 i, .int .i64 n, .list f p (dS P)] hp = some (.tup [(leadQ m x i n P).s, .bool true])
  | 0, x, i, n, f, p, P, hp, h, _, hi, _ => by omega
  | m + 1, x, i, n, f, p, P, hp, h, hm, hi, hP => by
    rw [deep_code h249 rfl, deep_go]
    simp only [Q.s, mapO_nil, mapO_cons, consO_some, snapA_list, snapA_int, snapA_agg, snapC_int, aggO_some, goD_some]
    rw [Call_mk E h249 _ _ rfl]
    have hs := fun hp => d_split243 T.e243 n (by omega) hp
    have hPl : P.length ≤ 1000 := by rw [hP]; exact Nat.le_trans (dep_le _ _ _) hm
    rw [dep] at hP
    rw [leadQ]
    by_cases h1 : n = 1
    · have h1' : (n : Int) = 1 := by omega
      rw [if_pos h1] at hP ⊢
      have h2 : ((dS P).length : Int) = 0 := by rw [dS_len]; omega
      simp only [Aa, Ab, Ac, Ad, Ae, Af, Ag, Ah, Ai, Aj, Ak, Al, Am, Ao, Ap, Aq, Ar, Au, Av, Aw, Ay, Az, Ba, Bb, Bc, Bd, Be, Bf, Bg, Bh, Bi, Bj, Bk, Bl, Bm, Bn, Bo, Bp, Bq, Br, Bs, Bt, Bv, Bw, Bx, Bz, Ca, Cb, Cc, Cd, Ce, Cf, Cg, Ch, Ci, Cj, Ck, Cl, Cm, Cn, Co, Cp, Cq, Cr, Cs, Ct, Cu, Cv, Cw, Cy, Cz, Da, Db, Dc, De, Df, Dg, Dh, Di, Dj, Dk, Dl, Dm, Dn, Option.map_some, Dp, Dq, Dr, Dt, Du, Dv, Dw, Dx, Dy, Dz, Ea, Eb, Ec, Ed, Ee, Ef, Eg, Eh, Ei, Ej, Ek, El, Em, Eo, Ep, Er, Es, Et, Eu, Ev, Ew, Ey, Ez, Fa, Fb, Fc, Fe, Ff, Fg, Fh, Fj, Fl, Fm, Fp, Fq, Fs, Ft, Fu, Fv, Fw, Fx, Fy, Fz, Ga, Gb, Gc, Gd, Ge, Gf, Gg, Gh, Gi, Gj, Nat.reduceEqDiff, Nat.reduceAdd, Nat.reduceMul, Nat.reduceLT, Nat.reduceLeDiff, ↓reduceIte, Ml, Mm, Nat.reduceBEq, Mn, Mo, Mp, Mq, reduceCtorEq, Mr, Ms, Gk, Gl, Gm, Gn, Gp, Gq, Gr, Gs, Gt, Gu, Gv, Gw, Gx, Gy, Gz, Ha, Hb, Hc, Hd, He, Hf, Hg, Hh, Hj, Hk, Hl, Hm, Hn, Ho, Hq, Hr, Hs, Ht, Hu, Hv, Hw, Hy, Hz, Ia, Ib, Ic, Ie, Ig, Ih, Ii, Ij, Ik, Il, Im, Io, Ip, Iq, Ir, Iu, Iv, Iw, Iy, Iz, Ja, Jb, Jc, Jd, Je, Jf, Jg, Jh, Ji, Jj, Jk, Jl, Jm, Jn, Jo, Jp, Jq, Jr, Js, Jt, Ju, Jv, Jw, Jy, Jz, Ka, Kb, Kc, Ke, Kf, Kg, Kh, Ki, Kj, Kk, Kl, Km, Kn, Ko, Kq, Kr, Ks, Kt, Ku, Kv, Kw, Kx, Ky, Kz, La, Lb, Lc, Ld, Le, Lf, Lg, Lh, Li, Lj, Ll, Lm, Ln, Lp, and_self, true_and, and_true, Mt, Mu, Mv, Mw, Mx, My, Mz, Na, Nb, Nc, Nd, Nf, Ng, Nh, Int.reduceToNat, Int.reduceLT, Int.reduceEq, Int.reduceLE, List.getElem?_cons_zero, List.getElem?_cons_succ, Lr, Ls, Lt, Ni, Nj, Nk, Nl, gt_iff_lt, ge_iff_le, Lu, Lv, Lw, Lx, Ly, Ma, Nn, Np, Mb, Mc, Md, Me, Mf, Mg, Mh, Mi, Mj, Mk, Nq, Nr, h1', h2, decide_true, Q.s]
    · have h1' : ¬ (n : Int) = 1 := by omega
      have hb := spl_bd (n := n) (by omega)
      rw [if_neg h1] at hP ⊢
      by_cases hlt : i < spl n
      · have hlt' : (i : Int) < ((spl n : Nat) : Int) := by omega
        rw [if_pos hlt] at hP ⊢
        have h2 : ¬ ((P.length : Nat) : Int) = 0 := by omega
        have hw : IntKind.i64.wrap ((P.length : Int) - 1) = ((P.length - 1 : Nat) : Int) := by
          rw [show (P.length : Int) - 1 = ((P.length - 1 : Nat) : Int) by omega]
          exact wrap_i64 (by omega) (by omega)
        have hia := fun hp => iaddr_dS (hp := hp) (f := f) (p := p) (P := P) (j := P.length - 1) (by omega)
        have hs1 : ∀ (fr : Fr) vars hp, sliceR ⟨fr, vars, hp⟩ (some 4) (.list f p (dS P)) none (some (.int .i64 ((P.length - 1 : Nat) : Int))) = some (.list (f && P.length - 1 == P.length) p (dS (P.take (P.length - 1))), [], []) := by
          intro fr vars hp
          simp [sliceR, bnd, dS_esz, dS_len, dS_take]
        have ih := fun f p hp => d_lead249 T h249 m x i (spl n) f p (P.take (P.length - 1)) hp (by omega) (by omega) hlt (by rw [List.length_take]; omega)
        have hj := fun (x y : Q) hp => d_join19 T.e25 T.e9 T.e14 T.e19 x.a x.b x.c x.d y.a y.b y.c y.d hp
        simp only [Q.s] at ih hj
        simp only [Aa, Ab, Ac, Ad, Ae, Af, Ag, Ah, Ai, Aj, Ak, Al, Am, Ao, Ap, Aq, Ar, Au, Av, Aw, Ay, Az, Ba, Bb, Bc, Bd, Be, Bf, Bg, Bh, Bi, Bj, Bk, Bl, Bm, Bn, Bo, Bp, Bq, Br, Bs, Bt, Bv, Bw, Bx, Bz, Ca, Cb, Cc, Cd, Ce, Cf, Cg, Ch, Ci, Cj, Ck, Cl, Cm, Cn, Co, Cp, Cq, Cr, Cs, Ct, Cu, Cv, Cw, Cy, Cz, Da, Db, Dc, De, Df, Dg, Dh, Di, Dj, Dk, Dl, Dm, Dn, Option.map_some, Dp, Dq, Dr, Dt, Du, Dv, Dw, Dx, Dy, Dz, Ea, Eb, Ec, Ed, Ee, Ef, Eg, Eh, Ei, Ej, Ek, El, Em, Eo, Ep, Er, Es, Et, Eu, Ev, Ew, Ey, Ez, Fa, Fb, Fc, Fe, Ff, Fg, Fh, Fj, Fl, Fm, Fp, Fq, Fs, Ft, Fu, Fv, Fw, Fx, Fy, Fz, Ga, Gb, Gc, Gd, Ge, Gf, Gg, Gh, Gi, Gj, Nat.reduceEqDiff, Nat.reduceAdd, Nat.reduceMul, Nat.reduceLT, Nat.reduceLeDiff, ↓reduceIte, Ml, Mm, Nat.reduceBEq, Mn, Mo, Mp, Mq, reduceCtorEq, Mr, Ms, Gk, Gl, Gm, Gn, Gp, Gq, Gr, Gs, Gt, Gu, Gv, Gw, Gx, Gy, Gz, Ha, Hb, Hc, Hd, He, Hf, Hg, Hh, Hj, Hk, Hl, Hm, Hn, Ho, Hq, Hr, Hs, Ht, Hu, Hv, Hw, Hy, Hz, Ia, Ib, Ic, Ie, Ig, Ih, Ii, Ij, Ik, Il, Im, Io, Ip, Iq, Ir, Iu, Iv, Iw, Iy, Iz, Ja, Jb, Jc, Jd, Je, Jf, Jg, Jh, Ji, Jj, Jk, Jl, Jm, Jn, Jo, Jp, Jq, Jr, Js, Jt, Ju, Jv, Jw, Jy, Jz, Ka, Kb, Kc, Ke, Kf, Kg, Kh, Ki, Kj, Kk, Kl, Km, Kn, Ko, Kq, Kr, Ks, Kt, Ku, Kv, Kw, Kx, Ky, Kz, La, Lb, Lc, Ld, Le, Lf, Lg, Lh, Li, Lj, Ll, Lm, Ln, Lp, and_self, true_and, and_true, Mt, Mu, Mv, Mw, Mx, My, Mz, Na, Nb, Nc, Nd, Nf, Ng, Nh, Int.reduceToNat, Int.reduceLT, Int.reduceEq, Int.reduceLE, List.getElem?_cons_zero, List.getElem?_cons_succ, Lr, Ls, Lt, Ni, Nj, Nk, Nl, gt_iff_lt, ge_iff_le, Lu, Lv, Lw, Lx, Ly, Ma, Nn, Np, Mb, Mc, Md, Me, Mf, Mg, Mh, Mi, Mj, Mk, Nq, Nr, dS_len, h1', h2, decide_false, op_call_deep _ _ T.e243 rfl, hs, hlt', decide_true, hw]
        conv in (Run E (.dregion d249_0) _) =>
          tactic =>
            apply regionD_by
            · (simp only [d249_0, deads, K.allocs, if_true, if_false, Bool.false_eq_true, List.cons_append, List.nil_append, reduceIte]; rfl)
            · repeat
                first
                  | (apply runD_q rfl rfl
                     · first
                     | (simp only [evalK_callo, evalK, evs, A.ev, evo, evp, evq, getF_cons, Nat.reduceEqDiff, if_false, if_true, reduceIte, Option.map_some, Option.bind_some, loadR, getV_cons, getV_nil, cellsAt_eq, List.getElem?_cons_zero, List.getElem?_cons_succ, rowCells_some, cells_agg, List.drop_zero, List.take_succ_cons, List.take_zero, List.drop_succ_cons, mk_agg, mk_one, Nat.reduceAdd, Nat.reduceLeDiff, Nat.zero_add, List.length_cons, List.length_nil, List.flatMap_cons, List.flatMap_nil, cells_int, List.cons_append, List.nil_append, List.append_nil, true_and, and_true, Nat.reduceMul, Nat.add_zero, binS_sub, hs1, ih]; first | done | rfl)
                     | rfl)
                  | (apply runD_a rfl rfl rfl
                     · first
                     | (simp only [evalK_callo, evalK, evs, A.ev, evo, evp, evq, getF_cons, Nat.reduceEqDiff, if_false, if_true, reduceIte, Option.map_some, Option.bind_some, loadR, getV_cons, getV_nil, cellsAt_eq, List.getElem?_cons_zero, List.getElem?_cons_succ, rowCells_some, cells_agg, List.drop_zero, List.take_succ_cons, List.take_zero, List.drop_succ_cons, mk_agg, mk_one, Nat.reduceAdd, Nat.reduceLeDiff, Nat.zero_add, List.length_cons, List.length_nil, List.flatMap_cons, List.flatMap_nil, cells_int, List.cons_append, List.nil_append, List.append_nil, true_and, and_true, Nat.reduceMul, Nat.add_zero, binS_sub, hs1, ih]; first | done | rfl)
                     | rfl)
                  | (apply runD_w rfl rfl rfl
                     · first
                     | (simp only [evalK_callo, evalK, evs, A.ev, evo, evp, evq, getF_cons, Nat.reduceEqDiff, if_false, if_true, reduceIte, Option.map_some, Option.bind_some, loadR, getV_cons, getV_nil, cellsAt_eq, List.getElem?_cons_zero, List.getElem?_cons_succ, rowCells_some, cells_agg, List.drop_zero, List.take_succ_cons, List.take_zero, List.drop_succ_cons, mk_agg, mk_one, Nat.reduceAdd, Nat.reduceLeDiff, Nat.zero_add, List.length_cons, List.length_nil, List.flatMap_cons, List.flatMap_nil, cells_int, List.cons_append, List.nil_append, List.append_nil, true_and, and_true, Nat.reduceMul, Nat.add_zero, binS_sub, hs1, ih]; first | done | rfl)
                     | rfl
                     · (simp only [List.length_cons, List.length_set, List.length_append, List.length_nil]; decide)
                     · (simp only [List.set_cons_zero, List.set_cons_succ, List.set_cons_zero]; rfl))
                  | (apply runD_sh rfl rfl
                     · first
                     | (simp only [evalK_callo, evalK, evs, A.ev, evo, evp, evq, getF_cons, Nat.reduceEqDiff, if_false, if_true, reduceIte, Option.map_some, Option.bind_some, loadR, getV_cons, getV_nil, cellsAt_eq, List.getElem?_cons_zero, List.getElem?_cons_succ, rowCells_some, cells_agg, List.drop_zero, List.take_succ_cons, List.take_zero, List.drop_succ_cons, mk_agg, mk_one, Nat.reduceAdd, Nat.reduceLeDiff, Nat.zero_add, List.length_cons, List.length_nil, List.flatMap_cons, List.flatMap_nil, cells_int, List.cons_append, List.nil_append, List.append_nil, true_and, and_true, Nat.reduceMul, Nat.add_zero, binS_sub, hs1, ih]; first | done | rfl)
                     | rfl
                     · (simp only [List.length_cons, List.length_set, List.length_append, List.length_nil]; decide)
                     · (simp only [List.set_cons_zero, List.set_cons_succ, List.set_cons_zero]; rfl))
                  | (apply runD_sv rfl rfl
                     · first
                     | (simp only [evalK_callo, evalK, evs, A.ev, evo, evp, evq, getF_cons, Nat.reduceEqDiff, if_false, if_true, reduceIte, Option.map_some, Option.bind_some, loadR, getV_cons, getV_nil, cellsAt_eq, List.getElem?_cons_zero, List.getElem?_cons_succ, rowCells_some, cells_agg, List.drop_zero, List.take_succ_cons, List.take_zero, List.drop_succ_cons, mk_agg, mk_one, Nat.reduceAdd, Nat.reduceLeDiff, Nat.zero_add, List.length_cons, List.length_nil, List.flatMap_cons, List.flatMap_nil, cells_int, List.cons_append, List.nil_append, List.append_nil, true_and, and_true, Nat.reduceMul, Nat.add_zero, binS_sub, hs1, ih]; first | done | rfl)
                     | rfl
                     · (simp only [setV_cons, setV_nil, Nat.reduceEqDiff, if_true, if_false, reduceIte]; rfl))
              rfl
            · kernel_rfl
            · rfl
            · (simp only [trim]; rfl)
        simp only [Aa, Ab, Ac, Ad, Ae, Af, Ag, Ah, Ai, Aj, Ak, Al, Am, Ao, Ap, Aq, Ar, Au, Av, Aw, Ay, Az, Ba, Bb, Bc, Bd, Be, Bf, Bg, Bh, Bi, Bj, Bk, Bl, Bm, Bn, Bo, Bp, Bq, Br, Bs, Bt, Bv, Bw, Bx, Bz, Ca, Cb, Cc, Cd, Ce, Cf, Cg, Ch, Ci, Cj, Ck, Cl, Cm, Cn, Co, Cp, Cq, Cr, Cs, Ct, Cu, Cv, Cw, Cy, Cz, Da, Db, Dc, De, Df, Dg, Dh, Di, Dj, Dk, Dl, Dm, Dn, Option.map_some, Dp, Dq, Dr, Dt, Du, Dv, Dw, Dx, Dy, Dz, Ea, Eb, Ec, Ed, Ee, Ef, Eg, Eh, Ei, Ej, Ek, El, Em, Eo, Ep, Er, Es, Et, Eu, Ev, Ew, Ey, Ez, Fa, Fb, Fc, Fe, Ff, Fg, Fh, Fj, Fl, Fm, Fp, Fq, Fs, Ft, Fu, Fv, Fw, Fx, Fy, Fz, Ga, Gb, Gc, Gd, Ge, Gf, Gg, Gh, Gi, Gj, Nat.reduceEqDiff, Nat.reduceAdd, Nat.reduceMul, Nat.reduceLT, Nat.reduceLeDiff, ↓reduceIte, Ml, Mm, Nat.reduceBEq, Mn, Mo, Mp, Mq, reduceCtorEq, Mr, Ms, Gk, Gl, Gm, Gn, Gp, Gq, Gr, Gs, Gt, Gu, Gv, Gw, Gx, Gy, Gz, Ha, Hb, Hc, Hd, He, Hf, Hg, Hh, Hj, Hk, Hl, Hm, Hn, Ho, Hq, Hr, Hs, Ht, Hu, Hv, Hw, Hy, Hz, Ia, Ib, Ic, Ie, Ig, Ih, Ii, Ij, Ik, Il, Im, Io, Ip, Iq, Ir, Iu, Iv, Iw, Iy, Iz, Ja, Jb, Jc, Jd, Je, Jf, Jg, Jh, Ji, Jj, Jk, Jl, Jm, Jn, Jo, Jp, Jq, Jr, Js, Jt, Ju, Jv, Jw, Jy, Jz, Ka, Kb, Kc, Ke, Kf, Kg, Kh, Ki, Kj, Kk, Kl, Km, Kn, Ko, Kq, Kr, Ks, Kt, Ku, Kv, Kw, Kx, Ky, Kz, La, Lb, Lc, Ld, Le, Lf, Lg, Lh, Li, Lj, Ll, Lm, Ln, Lp, and_self, true_and, and_true, Mt, Mu, Mv, Mw, Mx, My, Mz, Na, Nb, Nc, Nd, Nf, Ng, Nh, Int.reduceToNat, Int.reduceLT, Int.reduceEq, Int.reduceLE, List.getElem?_cons_zero, List.getElem?_cons_succ, Lr, Ls, Lt, Ni, Nj, Nk, Nl, gt_iff_lt, ge_iff_le, Lu, Lv, Lw, Lx, Ly, Ma, Nn, Np, Mb, Mc, Md, Me, Mf, Mg, Mh, Mi, Mj, Mk, Nq, Nr, rd249_1 E (deepB_code T.e19 rfl), d249_1, hia, op_call_deep _ _ T.e19 rfl, hj, Q.s, joinQ, List.flatMap_cons, List.flatMap_nil, List.cons_append, List.nil_append]
      · have hlt' : ¬ (i : Int) < ((spl n : Nat) : Int) := by omega
        rw [if_neg hlt] at hP ⊢
        have h2 : ¬ ((P.length : Nat) : Int) = 0 := by omega
        have hw : IntKind.i64.wrap ((P.length : Int) - 1) = ((P.length - 1 : Nat) : Int) := by
          rw [show (P.length : Int) - 1 = ((P.length - 1 : Nat) : Int) by omega]
          exact wrap_i64 (by omega) (by omega)
        have hwi : IntKind.i64.wrap ((i : Int) - ((spl n : Nat) : Int)) = ((i - spl n : Nat) : Int) := by
          rw [show (i : Int) - ((spl n : Nat) : Int) = ((i - spl n : Nat) : Int) by omega]
          exact wrap_i64 (by omega) (by omega)
        have hwn : IntKind.i64.wrap ((n : Int) - ((spl n : Nat) : Int)) = ((n - spl n : Nat) : Int) := by
          rw [show (n : Int) - ((spl n : Nat) : Int) = ((n - spl n : Nat) : Int) by omega]
          exact wrap_i64 (by omega) (by omega)
        have hia := fun hp => iaddr_dS (hp := hp) (f := f) (p := p) (P := P) (j := P.length - 1) (by omega)
        have hs1 : ∀ (fr : Fr) vars hp, sliceR ⟨fr, vars, hp⟩ (some 4) (.list f p (dS P)) none (some (.int .i64 ((P.length - 1 : Nat) : Int))) = some (.list (f && P.length - 1 == P.length) p (dS (P.take (P.length - 1))), [], []) := by
          intro fr vars hp
          simp [sliceR, bnd, dS_esz, dS_len, dS_take]
        have ih := fun f p hp => d_lead249 T h249 m x (i - spl n) (n - spl n) f p (P.take (P.length - 1)) hp (by omega) (by omega) (by omega) (by rw [List.length_take]; omega)
        have hj := fun (x y : Q) hp => d_join19 T.e25 T.e9 T.e14 T.e19 x.a x.b x.c x.d y.a y.b y.c y.d hp
        simp only [Q.s] at ih hj
        simp only [Aa, Ab, Ac, Ad, Ae, Af, Ag, Ah, Ai, Aj, Ak, Al, Am, Ao, Ap, Aq, Ar, Au, Av, Aw, Ay, Az, Ba, Bb, Bc, Bd, Be, Bf, Bg, Bh, Bi, Bj, Bk, Bl, Bm, Bn, Bo, Bp, Bq, Br, Bs, Bt, Bv, Bw, Bx, Bz, Ca, Cb, Cc, Cd, Ce, Cf, Cg, Ch, Ci, Cj, Ck, Cl, Cm, Cn, Co, Cp, Cq, Cr, Cs, Ct, Cu, Cv, Cw, Cy, Cz, Da, Db, Dc, De, Df, Dg, Dh, Di, Dj, Dk, Dl, Dm, Dn, Option.map_some, Dp, Dq, Dr, Dt, Du, Dv, Dw, Dx, Dy, Dz, Ea, Eb, Ec, Ed, Ee, Ef, Eg, Eh, Ei, Ej, Ek, El, Em, Eo, Ep, Er, Es, Et, Eu, Ev, Ew, Ey, Ez, Fa, Fb, Fc, Fe, Ff, Fg, Fh, Fj, Fl, Fm, Fp, Fq, Fs, Ft, Fu, Fv, Fw, Fx, Fy, Fz, Ga, Gb, Gc, Gd, Ge, Gf, Gg, Gh, Gi, Gj, Nat.reduceEqDiff, Nat.reduceAdd, Nat.reduceMul, Nat.reduceLT, Nat.reduceLeDiff, ↓reduceIte, Ml, Mm, Nat.reduceBEq, Mn, Mo, Mp, Mq, reduceCtorEq, Mr, Ms, Gk, Gl, Gm, Gn, Gp, Gq, Gr, Gs, Gt, Gu, Gv, Gw, Gx, Gy, Gz, Ha, Hb, Hc, Hd, He, Hf, Hg, Hh, Hj, Hk, Hl, Hm, Hn, Ho, Hq, Hr, Hs, Ht, Hu, Hv, Hw, Hy, Hz, Ia, Ib, Ic, Ie, Ig, Ih, Ii, Ij, Ik, Il, Im, Io, Ip, Iq, Ir, Iu, Iv, Iw, Iy, Iz, Ja, Jb, Jc, Jd, Je, Jf, Jg, Jh, Ji, Jj, Jk, Jl, Jm, Jn, Jo, Jp, Jq, Jr, Js, Jt, Ju, Jv, Jw, Jy, Jz, Ka, Kb, Kc, Ke, Kf, Kg, Kh, Ki, Kj, Kk, Kl, Km, Kn, Ko, Kq, Kr, Ks, Kt, Ku, Kv, Kw, Kx, Ky, Kz, La, Lb, Lc, Ld, Le, Lf, Lg, Lh, Li, Lj, Ll, Lm, Ln, Lp, and_self, true_and, and_true, Mt, Mu, Mv, Mw, Mx, My, Mz, Na, Nb, Nc, Nd, Nf, Ng, Nh, Int.reduceToNat, Int.reduceLT, Int.reduceEq, Int.reduceLE, List.getElem?_cons_zero, List.getElem?_cons_succ, Lr, Ls, Lt, Ni, Nj, Nk, Nl, gt_iff_lt, ge_iff_le, Lu, Lv, Lw, Lx, Ly, Ma, Nn, Np, Mb, Mc, Md, Me, Mf, Mg, Mh, Mi, Mj, Mk, Nq, Nr, dS_len, h1', h2, decide_false, op_call_deep _ _ T.e243 rfl, hs, hlt', hw]
        conv in (Run E (.dregion d249_2) _) =>
          tactic =>
            apply regionD_by
            · (simp only [d249_2, deads, K.allocs, if_true, if_false, Bool.false_eq_true, List.cons_append, List.nil_append, reduceIte]; rfl)
            · repeat
                first
                  | (apply runD_q rfl rfl
                     · first
                     | (simp only [evalK_callo, evalK, evs, A.ev, evo, evp, evq, getF_cons, Nat.reduceEqDiff, if_false, if_true, reduceIte, Option.map_some, Option.bind_some, loadR, getV_cons, getV_nil, cellsAt_eq, List.getElem?_cons_zero, List.getElem?_cons_succ, rowCells_some, cells_agg, List.drop_zero, List.take_succ_cons, List.take_zero, List.drop_succ_cons, mk_agg, mk_one, Nat.reduceAdd, Nat.reduceLeDiff, Nat.zero_add, List.length_cons, List.length_nil, List.flatMap_cons, List.flatMap_nil, cells_int, List.cons_append, List.nil_append, List.append_nil, true_and, and_true, Nat.reduceMul, Nat.add_zero, binS_sub, hs1, ih, hwi, hwn]; first | done | rfl)
                     | rfl)
                  | (apply runD_a rfl rfl rfl
                     · first
                     | (simp only [evalK_callo, evalK, evs, A.ev, evo, evp, evq, getF_cons, Nat.reduceEqDiff, if_false, if_true, reduceIte, Option.map_some, Option.bind_some, loadR, getV_cons, getV_nil, cellsAt_eq, List.getElem?_cons_zero, List.getElem?_cons_succ, rowCells_some, cells_agg, List.drop_zero, List.take_succ_cons, List.take_zero, List.drop_succ_cons, mk_agg, mk_one, Nat.reduceAdd, Nat.reduceLeDiff, Nat.zero_add, List.length_cons, List.length_nil, List.flatMap_cons, List.flatMap_nil, cells_int, List.cons_append, List.nil_append, List.append_nil, true_and, and_true, Nat.reduceMul, Nat.add_zero, binS_sub, hs1, ih, hwi, hwn]; first | done | rfl)
                     | rfl)
                  | (apply runD_w rfl rfl rfl
                     · first
                     | (simp only [evalK_callo, evalK, evs, A.ev, evo, evp, evq, getF_cons, Nat.reduceEqDiff, if_false, if_true, reduceIte, Option.map_some, Option.bind_some, loadR, getV_cons, getV_nil, cellsAt_eq, List.getElem?_cons_zero, List.getElem?_cons_succ, rowCells_some, cells_agg, List.drop_zero, List.take_succ_cons, List.take_zero, List.drop_succ_cons, mk_agg, mk_one, Nat.reduceAdd, Nat.reduceLeDiff, Nat.zero_add, List.length_cons, List.length_nil, List.flatMap_cons, List.flatMap_nil, cells_int, List.cons_append, List.nil_append, List.append_nil, true_and, and_true, Nat.reduceMul, Nat.add_zero, binS_sub, hs1, ih, hwi, hwn]; first | done | rfl)
                     | rfl
                     · (simp only [List.length_cons, List.length_set, List.length_append, List.length_nil]; decide)
                     · (simp only [List.set_cons_zero, List.set_cons_succ, List.set_cons_zero]; rfl))
                  | (apply runD_sh rfl rfl
                     · first
                     | (simp only [evalK_callo, evalK, evs, A.ev, evo, evp, evq, getF_cons, Nat.reduceEqDiff, if_false, if_true, reduceIte, Option.map_some, Option.bind_some, loadR, getV_cons, getV_nil, cellsAt_eq, List.getElem?_cons_zero, List.getElem?_cons_succ, rowCells_some, cells_agg, List.drop_zero, List.take_succ_cons, List.take_zero, List.drop_succ_cons, mk_agg, mk_one, Nat.reduceAdd, Nat.reduceLeDiff, Nat.zero_add, List.length_cons, List.length_nil, List.flatMap_cons, List.flatMap_nil, cells_int, List.cons_append, List.nil_append, List.append_nil, true_and, and_true, Nat.reduceMul, Nat.add_zero, binS_sub, hs1, ih, hwi, hwn]; first | done | rfl)
                     | rfl
                     · (simp only [List.length_cons, List.length_set, List.length_append, List.length_nil]; decide)
                     · (simp only [List.set_cons_zero, List.set_cons_succ, List.set_cons_zero]; rfl))
                  | (apply runD_sv rfl rfl
                     · first
                     | (simp only [evalK_callo, evalK, evs, A.ev, evo, evp, evq, getF_cons, Nat.reduceEqDiff, if_false, if_true, reduceIte, Option.map_some, Option.bind_some, loadR, getV_cons, getV_nil, cellsAt_eq, List.getElem?_cons_zero, List.getElem?_cons_succ, rowCells_some, cells_agg, List.drop_zero, List.take_succ_cons, List.take_zero, List.drop_succ_cons, mk_agg, mk_one, Nat.reduceAdd, Nat.reduceLeDiff, Nat.zero_add, List.length_cons, List.length_nil, List.flatMap_cons, List.flatMap_nil, cells_int, List.cons_append, List.nil_append, List.append_nil, true_and, and_true, Nat.reduceMul, Nat.add_zero, binS_sub, hs1, ih, hwi, hwn]; first | done | rfl)
                     | rfl
                     · (simp only [setV_cons, setV_nil, Nat.reduceEqDiff, if_true, if_false, reduceIte]; rfl))
              rfl
            · kernel_rfl
            · rfl
            · (simp only [trim]; rfl)
        simp only [Aa, Ab, Ac, Ad, Ae, Af, Ag, Ah, Ai, Aj, Ak, Al, Am, Ao, Ap, Aq, Ar, Au, Av, Aw, Ay, Az, Ba, Bb, Bc, Bd, Be, Bf, Bg, Bh, Bi, Bj, Bk, Bl, Bm, Bn, Bo, Bp, Bq, Br, Bs, Bt, Bv, Bw, Bx, Bz, Ca, Cb, Cc, Cd, Ce, Cf, Cg, Ch, Ci, Cj, Ck, Cl, Cm, Cn, Co, Cp, Cq, Cr, Cs, Ct, Cu, Cv, Cw, Cy, Cz, Da, Db, Dc, De, Df, Dg, Dh, Di, Dj, Dk, Dl, Dm, Dn, Option.map_some, Dp, Dq, Dr, Dt, Du, Dv, Dw, Dx, Dy, Dz, Ea, Eb, Ec, Ed, Ee, Ef, Eg, Eh, Ei, Ej, Ek, El, Em, Eo, Ep, Er, Es, Et, Eu, Ev, Ew, Ey, Ez, Fa, Fb, Fc, Fe, Ff, Fg, Fh, Fj, Fl, Fm, Fp, Fq, Fs, Ft, Fu, Fv, Fw, Fx, Fy, Fz, Ga, Gb, Gc, Gd, Ge, Gf, Gg, Gh, Gi, Gj, Nat.reduceEqDiff, Nat.reduceAdd, Nat.reduceMul, Nat.reduceLT, Nat.reduceLeDiff, ↓reduceIte, Ml, Mm, Nat.reduceBEq, Mn, Mo, Mp, Mq, reduceCtorEq, Mr, Ms, Gk, Gl, Gm, Gn, Gp, Gq, Gr, Gs, Gt, Gu, Gv, Gw, Gx, Gy, Gz, Ha, Hb, Hc, Hd, He, Hf, Hg, Hh, Hj, Hk, Hl, Hm, Hn, Ho, Hq, Hr, Hs, Ht, Hu, Hv, Hw, Hy, Hz, Ia, Ib, Ic, Ie, Ig, Ih, Ii, Ij, Ik, Il, Im, Io, Ip, Iq, Ir, Iu, Iv, Iw, Iy, Iz, Ja, Jb, Jc, Jd, Je, Jf, Jg, Jh, Ji, Jj, Jk, Jl, Jm, Jn, Jo, Jp, Jq, Jr, Js, Jt, Ju, Jv, Jw, Jy, Jz, Ka, Kb, Kc, Ke, Kf, Kg, Kh, Ki, Kj, Kk, Kl, Km, Kn, Ko, Kq, Kr, Ks, Kt, Ku, Kv, Kw, Kx, Ky, Kz, La, Lb, Lc, Ld, Le, Lf, Lg, Lh, Li, Lj, Ll, Lm, Ln, Lp, and_self, true_and, and_true, Mt, Mu, Mv, Mw, Mx, My, Mz, Na, Nb, Nc, Nd, Nf, Ng, Nh, Int.reduceToNat, Int.reduceLT, Int.reduceEq, Int.reduceLE, List.getElem?_cons_zero, List.getElem?_cons_succ, Lr, Ls, Lt, Ni, Nj, Nk, Nl, gt_iff_lt, ge_iff_le, Lu, Lv, Lw, Lx, Ly, Ma, Nn, Np, Mb, Mc, Md, Me, Mf, Mg, Mh, Mi, Mj, Mk, Nq, Nr, rd249_3 E (deepB_code T.e19 rfl), d249_3, hia, op_call_deep _ _ T.e19 rfl, hj, Q.s, joinQ, List.flatMap_cons, List.flatMap_nil, List.cons_append, List.nil_append]

theorem ev_iaddr_dS {dp : Nat → List S → Hp → Option S} {slot : Nat} {fr : Fr} {vars : Vars} {hp : Hp} {a b : A} {f p : Bool} {P : List Q} {j : Nat} (h : j < P.length) (ha : a.ev fr = .list f p (dS P)) (hb : b.ev fr = .int .i64 (j : Int)) :
    evalK dp slot ⟨fr, vars, hp⟩ (.iaddr 4 a b) = some (.rptr [.int .u32 (P.getD j ⟨0, 0, 0, 0⟩).a, .int .u32 (P.getD j ⟨0, 0, 0, 0⟩).b, .int .u32 (P.getD j ⟨0, 0, 0, 0⟩).c, .int .u32 (P.getD j ⟨0, 0, 0, 0⟩).d] 0, [], []) := by
  have h1 : (dS P)[j]? = some (P.getD j ⟨0, 0, 0, 0⟩).s := by rw [dS_get (x := P[j]) (List.getElem?_eq_getElem h)]; simp [List.getD, h]
  simp only [evalK, ha, hb, Int.toNat_natCast, h1, if_pos (Int.natCast_nonneg j)]
  rfl

theorem d_lead250 {E : Env} (T : HasT E) (h250 : E 250 = some (.code c250)) : ∀ (m : Nat) (x : Q) (i n : Nat) (f p : Bool) (P : List Q) (hp : Hp), n ≤ m → m ≤ 1000 → i < n → P.length = dep m n i →
    deepE E (Call E) 250 [x.s, .int .i64 i, .int .i64 n, .list f p (dS P)] hp = some (.tup [(leadQ m x i n P).s, .bool true])
  | 0, x, i, n, f, p, P, hp, h, _, hi, _ => by omega
  | m + 1, x, i, n, f, p, P, hp, h, hm, hi, hP => by
    rw [deep_code h250 rfl, deep_go]
    simp only [Q.s, mapO_nil, mapO_cons, consO_some, snapA_list, snapA_int, snapA_agg, snapC_int, aggO_some, goD_some]
    rw [Call_mk E h250 _ _ rfl]
    have hs := fun hp => d_split251 T.e251 n (by omega) hp
    have hPl : P.length ≤ 1000 := by rw [hP]; exact Nat.le_trans (dep_le _ _ _) hm
    rw [dep] at hP
    rw [leadQ]
    by_cases h1 : n = 1
    · have h1' : (n : Int) = 1 := by omega
      rw [if_pos h1] at hP ⊢
      have h2 : ((dS P).length : Int) = 0 := by rw [dS_len]; omega
      simp only [Aa, Ab, Ac, Ad, Ae, Af, Ag, Ah, Ai, Aj, Ak, Al, Am, Ao, Ap, Aq, Ar, Au, Av, Aw, Ay, Az, Ba, Bb, Bc, Bd, Be, Bf, Bg, Bh, Bi, Bj, Bk, Bl, Bm, Bn, Bo, Bp, Bq, Br, Bs, Bt, Bv, Bw, Bx, Bz, Ca, Cb, Cc, Cd, Ce, Cf, Cg, Ch, Ci, Cj, Ck, Cl, Cm, Cn, Co, Cp, Cq, Cr, Cs, Ct, Cu, Cv, Cw, Cy, Cz, Da, Db, Dc, De, Df, Dg, Dh, Di, Dj, Dk, Dl, Dm, Dn, Option.map_some, Dp, Dq, Dr, Dt, Du, Dv, Dw, Dx, Dy, Dz, Ea, Eb, Ec, Ed, Ee, Ef, Eg, Eh, Ei, Ej, Ek, El, Em, Eo, Ep, Er, Es, Et, Eu, Ev, Ew, Ey, Ez, Fa, Fb, Fc, Fe, Ff, Fg, Fh, Fj, Fl, Fm, Fp, Fq, Fs, Ft, Fu, Fv, Fw, Fx, Fy, Fz, Ga, Gb, Gc, Gd, Ge, Gf, Gg, Gh, Gi, Gj, Nat.reduceEqDiff, Nat.reduceAdd, Nat.reduceMul, Nat.reduceLT, Nat.reduceLeDiff, ↓reduceIte, Ml, Mm, Nat.reduceBEq, Mn, Mo, Mp, Mq, reduceCtorEq, Mr, Ms, Gk, Gl, Gm, Gn, Gp, Gq, Gr, Gs, Gt, Gu, Gv, Gw, Gx, Gy, Gz, Ha, Hb, Hc, Hd, He, Hf, Hg, Hh, Hj, Hk, Hl, Hm, Hn, Ho, Hq, Hr, Hs, Ht, Hu, Hv, Hw, Hy, Hz, Ia, Ib, Ic, Ie, Ig, Ih, Ii, Ij, Ik, Il, Im, Io, Ip, Iq, Ir, Iu, Iv, Iw, Iy, Iz, Ja, Jb, Jc, Jd, Je, Jf, Jg, Jh, Ji, Jj, Jk, Jl, Jm, Jn, Jo, Jp, Jq, Jr, Js, Jt, Ju, Jv, Jw, Jy, Jz, Ka, Kb, Kc, Ke, Kf, Kg, Kh, Ki, Kj, Kk, Kl, Km, Kn, Ko, Kq, Kr, Ks, Kt, Ku, Kv, Kw, Kx, Ky, Kz, La, Lb, Lc, Ld, Le, Lf, Lg, Lh, Li, Lj, Ll, Lm, Ln, Lp, and_self, true_and, and_true, Mt, Mu, Mv, Mw, Mx, My, Mz, Na, Nb, Nc, Nd, Nf, Ng, Nh, Int.reduceToNat, Int.reduceLT, Int.reduceEq, Int.reduceLE, List.getElem?_cons_zero, List.getElem?_cons_succ, Lr, Ls, Lt, Ni, Nj, Nk, Nl, gt_iff_lt, ge_iff_le, Lu, Lv, Lw, Lx, Ly, Ma, Nn, Np, Mb, Mc, Md, Me, Mf, Mg, Mh, Mi, Mj, Mk, Nq, Nr, h1', h2, decide_true, Q.s]
    · have h1' : ¬ (n : Int) = 1 := by omega
      have hb := spl_bd (n := n) (by omega)
      rw [if_neg h1] at hP ⊢
      by_cases hlt : i < spl n
      · have hlt' : (i : Int) < ((spl n : Nat) : Int) := by omega
        rw [if_pos hlt] at hP ⊢
        have h2 : ¬ ((P.length : Nat) : Int) = 0 := by omega
        have hw : IntKind.i64.wrap ((P.length : Int) - 1) = ((P.length - 1 : Nat) : Int) := by
          rw [show (P.length : Int) - 1 = ((P.length - 1 : Nat) : Int) by omega]
          exact wrap_i64 (by omega) (by omega)
        have hia := fun hp => iaddr_dS (hp := hp) (f := f) (p := p) (P := P) (j := P.length - 1) (by omega)
        have hs1 : ∀ (fr : Fr) vars hp, sliceR ⟨fr, vars, hp⟩ (some 4) (.list f p (dS P)) none (some (.int .i64 ((P.length - 1 : Nat) : Int))) = some (.list (f && P.length - 1 == P.length) p (dS (P.take (P.length - 1))), [], []) := by
          intro fr vars hp
          simp [sliceR, bnd, dS_esz, dS_len, dS_take]
        have ih := fun f p hp => d_lead250 T h250 m x i (spl n) f p (P.take (P.length - 1)) hp (by omega) (by omega) hlt (by rw [List.length_take]; omega)
        have hj := fun (x y : Q) hp => d_join20 T.e26 T.e13 T.e12 T.e20 x.a x.b x.c x.d y.a y.b y.c y.d hp
        simp only [Q.s] at ih hj
        simp only [Aa, Ab, Ac, Ad, Ae, Af, Ag, Ah, Ai, Aj, Ak, Al, Am, Ao, Ap, Aq, Ar, Au, Av, Aw, Ay, Az, Ba, Bb, Bc, Bd, Be, Bf, Bg, Bh, Bi, Bj, Bk, Bl, Bm, Bn, Bo, Bp, Bq, Br, Bs, Bt, Bv, Bw, Bx, Bz, Ca, Cb, Cc, Cd, Ce, Cf, Cg, Ch, Ci, Cj, Ck, Cl, Cm, Cn, Co, Cp, Cq, Cr, Cs, Ct, Cu, Cv, Cw, Cy, Cz, Da, Db, Dc, De, Df, Dg, Dh, Di, Dj, Dk, Dl, Dm, Dn, Option.map_some, Dp, Dq, Dr, Dt, Du, Dv, Dw, Dx, Dy, Dz, Ea, Eb, Ec, Ed, Ee, Ef, Eg, Eh, Ei, Ej, Ek, El, Em, Eo, Ep, Er, Es, Et, Eu, Ev, Ew, Ey, Ez, Fa, Fb, Fc, Fe, Ff, Fg, Fh, Fj, Fl, Fm, Fp, Fq, Fs, Ft, Fu, Fv, Fw, Fx, Fy, Fz, Ga, Gb, Gc, Gd, Ge, Gf, Gg, Gh, Gi, Gj, Nat.reduceEqDiff, Nat.reduceAdd, Nat.reduceMul, Nat.reduceLT, Nat.reduceLeDiff, ↓reduceIte, Ml, Mm, Nat.reduceBEq, Mn, Mo, Mp, Mq, reduceCtorEq, Mr, Ms, Gk, Gl, Gm, Gn, Gp, Gq, Gr, Gs, Gt, Gu, Gv, Gw, Gx, Gy, Gz, Ha, Hb, Hc, Hd, He, Hf, Hg, Hh, Hj, Hk, Hl, Hm, Hn, Ho, Hq, Hr, Hs, Ht, Hu, Hv, Hw, Hy, Hz, Ia, Ib, Ic, Ie, Ig, Ih, Ii, Ij, Ik, Il, Im, Io, Ip, Iq, Ir, Iu, Iv, Iw, Iy, Iz, Ja, Jb, Jc, Jd, Je, Jf, Jg, Jh, Ji, Jj, Jk, Jl, Jm, Jn, Jo, Jp, Jq, Jr, Js, Jt, Ju, Jv, Jw, Jy, Jz, Ka, Kb, Kc, Ke, Kf, Kg, Kh, Ki, Kj, Kk, Kl, Km, Kn, Ko, Kq, Kr, Ks, Kt, Ku, Kv, Kw, Kx, Ky, Kz, La, Lb, Lc, Ld, Le, Lf, Lg, Lh, Li, Lj, Ll, Lm, Ln, Lp, and_self, true_and, and_true, Mt, Mu, Mv, Mw, Mx, My, Mz, Na, Nb, Nc, Nd, Nf, Ng, Nh, Int.reduceToNat, Int.reduceLT, Int.reduceEq, Int.reduceLE, List.getElem?_cons_zero, List.getElem?_cons_succ, Lr, Ls, Lt, Ni, Nj, Nk, Nl, gt_iff_lt, ge_iff_le, Lu, Lv, Lw, Lx, Ly, Ma, Nn, Np, Mb, Mc, Md, Me, Mf, Mg, Mh, Mi, Mj, Mk, Nq, Nr, dS_len, h1', h2, decide_false, op_call_deep _ _ T.e251 rfl, hs, hlt', decide_true, hw]
        conv in (Run E (.dregion d250_0) _) =>
          tactic =>
            apply regionD_by
            · (simp only [d250_0, deads, K.allocs, if_true, if_false, Bool.false_eq_true, List.cons_append, List.nil_append, reduceIte]; rfl)
            · repeat
                first
                  | (apply runD_q rfl rfl
                     · first
                     | exact ev_iaddr_dS (P := P) (j := P.length - 1) (by omega) rfl rfl
                     | (simp only [evalK_callo, evalK, evs, A.ev, evo, evp, evq, getF_cons, Nat.reduceEqDiff, if_false, if_true, reduceIte, Option.map_some, Option.bind_some, loadR, getV_cons, getV_nil, cellsAt_eq, List.getElem?_cons_zero, List.getElem?_cons_succ, rowCells_some, cells_agg, List.drop_zero, List.take_succ_cons, List.take_zero, List.drop_succ_cons, mk_agg, mk_one, Nat.reduceAdd, Nat.reduceLeDiff, Nat.zero_add, List.length_cons, List.length_nil, List.flatMap_cons, List.flatMap_nil, cells_int, List.cons_append, List.nil_append, List.append_nil, true_and, and_true, Nat.reduceMul, Nat.add_zero, binS_sub, hs, dS_len, hw]; first | done | rfl)
                     | rfl)
                  | (apply runD_a rfl rfl rfl
                     · first
                     | exact ev_iaddr_dS (P := P) (j := P.length - 1) (by omega) rfl rfl
                     | (simp only [evalK_callo, evalK, evs, A.ev, evo, evp, evq, getF_cons, Nat.reduceEqDiff, if_false, if_true, reduceIte, Option.map_some, Option.bind_some, loadR, getV_cons, getV_nil, cellsAt_eq, List.getElem?_cons_zero, List.getElem?_cons_succ, rowCells_some, cells_agg, List.drop_zero, List.take_succ_cons, List.take_zero, List.drop_succ_cons, mk_agg, mk_one, Nat.reduceAdd, Nat.reduceLeDiff, Nat.zero_add, List.length_cons, List.length_nil, List.flatMap_cons, List.flatMap_nil, cells_int, List.cons_append, List.nil_append, List.append_nil, true_and, and_true, Nat.reduceMul, Nat.add_zero, binS_sub, hs, dS_len, hw]; first | done | rfl)
                     | rfl)
                  | (apply runD_w rfl rfl rfl
                     · first
                     | exact ev_iaddr_dS (P := P) (j := P.length - 1) (by omega) rfl rfl
                     | (simp only [evalK_callo, evalK, evs, A.ev, evo, evp, evq, getF_cons, Nat.reduceEqDiff, if_false, if_true, reduceIte, Option.map_some, Option.bind_some, loadR, getV_cons, getV_nil, cellsAt_eq, List.getElem?_cons_zero, List.getElem?_cons_succ, rowCells_some, cells_agg, List.drop_zero, List.take_succ_cons, List.take_zero, List.drop_succ_cons, mk_agg, mk_one, Nat.reduceAdd, Nat.reduceLeDiff, Nat.zero_add, List.length_cons, List.length_nil, List.flatMap_cons, List.flatMap_nil, cells_int, List.cons_append, List.nil_append, List.append_nil, true_and, and_true, Nat.reduceMul, Nat.add_zero, binS_sub, hs, dS_len, hw]; first | done | rfl)
                     | rfl
                     · (simp only [List.length_cons, List.length_set, List.length_append, List.length_nil]; decide)
                     · (simp only [List.set_cons_zero, List.set_cons_succ, List.set_cons_zero]; rfl))
                  | (apply runD_sh rfl rfl
                     · first
                     | exact ev_iaddr_dS (P := P) (j := P.length - 1) (by omega) rfl rfl
                     | (simp only [evalK_callo, evalK, evs, A.ev, evo, evp, evq, getF_cons, Nat.reduceEqDiff, if_false, if_true, reduceIte, Option.map_some, Option.bind_some, loadR, getV_cons, getV_nil, cellsAt_eq, List.getElem?_cons_zero, List.getElem?_cons_succ, rowCells_some, cells_agg, List.drop_zero, List.take_succ_cons, List.take_zero, List.drop_succ_cons, mk_agg, mk_one, Nat.reduceAdd, Nat.reduceLeDiff, Nat.zero_add, List.length_cons, List.length_nil, List.flatMap_cons, List.flatMap_nil, cells_int, List.cons_append, List.nil_append, List.append_nil, true_and, and_true, Nat.reduceMul, Nat.add_zero, binS_sub, hs, dS_len, hw]; first | done | rfl)
                     | rfl
                     · (simp only [List.length_cons, List.length_set, List.length_append, List.length_nil]; decide)
                     · (simp only [List.set_cons_zero, List.set_cons_succ, List.set_cons_zero]; rfl))
                  | (apply runD_sv rfl rfl
                     · first
                     | exact ev_iaddr_dS (P := P) (j := P.length - 1) (by omega) rfl rfl
                     | (simp only [evalK_callo, evalK, evs, A.ev, evo, evp, evq, getF_cons, Nat.reduceEqDiff, if_false, if_true, reduceIte, Option.map_some, Option.bind_some, loadR, getV_cons, getV_nil, cellsAt_eq, List.getElem?_cons_zero, List.getElem?_cons_succ, rowCells_some, cells_agg, List.drop_zero, List.take_succ_cons, List.take_zero, List.drop_succ_cons, mk_agg, mk_one, Nat.reduceAdd, Nat.reduceLeDiff, Nat.zero_add, List.length_cons, List.length_nil, List.flatMap_cons, List.flatMap_nil, cells_int, List.cons_append, List.nil_append, List.append_nil, true_and, and_true, Nat.reduceMul, Nat.add_zero, binS_sub, hs, dS_len, hw]; first | done | rfl)
                     | rfl
                     · (simp only [setV_cons, setV_nil, Nat.reduceEqDiff, if_true, if_false, reduceIte]; rfl))
              rfl
            · kernel_rfl
            · rfl
            · (simp only [trim]; rfl)
        simp only [Aa, Ab, Ac, Ad, Ae, Af, Ag, Ah, Ai, Aj, Ak, Al, Am, Ao, Ap, Aq, Ar, Au, Av, Aw, Ay, Az, Ba, Bb, Bc, Bd, Be, Bf, Bg, Bh, Bi, Bj, Bk, Bl, Bm, Bn, Bo, Bp, Bq, Br, Bs, Bt, Bv, Bw, Bx, Bz, Ca, Cb, Cc, Cd, Ce, Cf, Cg, Ch, Ci, Cj, Ck, Cl, Cm, Cn, Co, Cp, Cq, Cr, Cs, Ct, Cu, Cv, Cw, Cy, Cz, Da, Db, Dc, De, Df, Dg, Dh, Di, Dj, Dk, Dl, Dm, Dn, Option.map_some, Dp, Dq, Dr, Dt, Du, Dv, Dw, Dx, Dy, Dz, Ea, Eb, Ec, Ed, Ee, Ef, Eg, Eh, Ei, Ej, Ek, El, Em, Eo, Ep, Er, Es, Et, Eu, Ev, Ew, Ey, Ez, Fa, Fb, Fc, Fe, Ff, Fg, Fh, Fj, Fl, Fm, Fp, Fq, Fs, Ft, Fu, Fv, Fw, Fx, Fy, Fz, Ga, Gb, Gc, Gd, Ge, Gf, Gg, Gh, Gi, Gj, Nat.reduceEqDiff, Nat.reduceAdd, Nat.reduceMul, Nat.reduceLT, Nat.reduceLeDiff, ↓reduceIte, Ml, Mm, Nat.reduceBEq, Mn, Mo, Mp, Mq, reduceCtorEq, Mr, Ms, Gk, Gl, Gm, Gn, Gp, Gq, Gr, Gs, Gt, Gu, Gv, Gw, Gx, Gy, Gz, Ha, Hb, Hc, Hd, He, Hf, Hg, Hh, Hj, Hk, Hl, Hm, Hn, Ho, Hq, Hr, Hs, Ht, Hu, Hv, Hw, Hy, Hz, Ia, Ib, Ic, Ie, Ig, Ih, Ii, Ij, Ik, Il, Im, Io, Ip, Iq, Ir, Iu, Iv, Iw, Iy, Iz, Ja, Jb, Jc, Jd, Je, Jf, Jg, Jh, Ji, Jj, Jk, Jl, Jm, Jn, Jo, Jp, Jq, Jr, Js, Jt, Ju, Jv, Jw, Jy, Jz, Ka, Kb, Kc, Ke, Kf, Kg, Kh, Ki, Kj, Kk, Kl, Km, Kn, Ko, Kq, Kr, Ks, Kt, Ku, Kv, Kw, Kx, Ky, Kz, La, Lb, Lc, Ld, Le, Lf, Lg, Lh, Li, Lj, Ll, Lm, Ln, Lp, and_self, true_and, and_true, Mt, Mu, Mv, Mw, Mx, My, Mz, Na, Nb, Nc, Nd, Nf, Ng, Nh, Int.reduceToNat, Int.reduceLT, Int.reduceEq, Int.reduceLE, List.getElem?_cons_zero, List.getElem?_cons_succ, Lr, Ls, Lt, Ni, Nj, Nk, Nl, gt_iff_lt, ge_iff_le, Lu, Lv, Lw, Lx, Ly, Ma, Nn, Np, Mb, Mc, Md, Me, Mf, Mg, Mh, Mi, Mj, Mk, Nq, Nr, hlt', decide_true]
        conv in (Run E (.dregion d250_1) _) =>
          tactic =>
            apply regionD_by
            · (simp only [d250_1, deads, K.allocs, if_true, if_false, Bool.false_eq_true, List.cons_append, List.nil_append, reduceIte]; rfl)
            · repeat
                first
                  | (apply runD_q rfl rfl
                     · first
                     | (simp only [evalK_callo, evalK, evs, A.ev, evo, evp, evq, getF_cons, Nat.reduceEqDiff, if_false, if_true, reduceIte, Option.map_some, Option.bind_some, loadR, getV_cons, getV_nil, cellsAt_eq, List.getElem?_cons_zero, List.getElem?_cons_succ, rowCells_some, cells_agg, List.drop_zero, List.take_succ_cons, List.take_zero, List.drop_succ_cons, mk_agg, mk_one, Nat.reduceAdd, Nat.reduceLeDiff, Nat.zero_add, List.length_cons, List.length_nil, List.flatMap_cons, List.flatMap_nil, cells_int, List.cons_append, List.nil_append, List.append_nil, true_and, and_true, Nat.reduceMul, Nat.add_zero, binS_sub, hs1, ih, hw, dS_len]; first | done | rfl)
                     | rfl)
                  | (apply runD_a rfl rfl rfl
                     · first
                     | (simp only [evalK_callo, evalK, evs, A.ev, evo, evp, evq, getF_cons, Nat.reduceEqDiff, if_false, if_true, reduceIte, Option.map_some, Option.bind_some, loadR, getV_cons, getV_nil, cellsAt_eq, List.getElem?_cons_zero, List.getElem?_cons_succ, rowCells_some, cells_agg, List.drop_zero, List.take_succ_cons, List.take_zero, List.drop_succ_cons, mk_agg, mk_one, Nat.reduceAdd, Nat.reduceLeDiff, Nat.zero_add, List.length_cons, List.length_nil, List.flatMap_cons, List.flatMap_nil, cells_int, List.cons_append, List.nil_append, List.append_nil, true_and, and_true, Nat.reduceMul, Nat.add_zero, binS_sub, hs1, ih, hw, dS_len]; first | done | rfl)
                     | rfl)
                  | (apply runD_w rfl rfl rfl
                     · first
                     | (simp only [evalK_callo, evalK, evs, A.ev, evo, evp, evq, getF_cons, Nat.reduceEqDiff, if_false, if_true, reduceIte, Option.map_some, Option.bind_some, loadR, getV_cons, getV_nil, cellsAt_eq, List.getElem?_cons_zero, List.getElem?_cons_succ, rowCells_some, cells_agg, List.drop_zero, List.take_succ_cons, List.take_zero, List.drop_succ_cons, mk_agg, mk_one, Nat.reduceAdd, Nat.reduceLeDiff, Nat.zero_add, List.length_cons, List.length_nil, List.flatMap_cons, List.flatMap_nil, cells_int, List.cons_append, List.nil_append, List.append_nil, true_and, and_true, Nat.reduceMul, Nat.add_zero, binS_sub, hs1, ih, hw, dS_len]; first | done | rfl)
                     | rfl
                     · (simp only [List.length_cons, List.length_set, List.length_append, List.length_nil]; decide)
                     · (simp only [List.set_cons_zero, List.set_cons_succ, List.set_cons_zero]; rfl))
                  | (apply runD_sh rfl rfl
                     · first
                     | (simp only [evalK_callo, evalK, evs, A.ev, evo, evp, evq, getF_cons, Nat.reduceEqDiff, if_false, if_true, reduceIte, Option.map_some, Option.bind_some, loadR, getV_cons, getV_nil, cellsAt_eq, List.getElem?_cons_zero, List.getElem?_cons_succ, rowCells_some, cells_agg, List.drop_zero, List.take_succ_cons, List.take_zero, List.drop_succ_cons, mk_agg, mk_one, Nat.reduceAdd, Nat.reduceLeDiff, Nat.zero_add, List.length_cons, List.length_nil, List.flatMap_cons, List.flatMap_nil, cells_int, List.cons_append, List.nil_append, List.append_nil, true_and, and_true, Nat.reduceMul, Nat.add_zero, binS_sub, hs1, ih, hw, dS_len]; first | done | rfl)
                     | rfl
                     · (simp only [List.length_cons, List.length_set, List.length_append, List.length_nil]; decide)
                     · (simp only [List.set_cons_zero, List.set_cons_succ, List.set_cons_zero]; rfl))
                  | (apply runD_sv rfl rfl
                     · first
                     | (simp only [evalK_callo, evalK, evs, A.ev, evo, evp, evq, getF_cons, Nat.reduceEqDiff, if_false, if_true, reduceIte, Option.map_some, Option.bind_some, loadR, getV_cons, getV_nil, cellsAt_eq, List.getElem?_cons_zero, List.getElem?_cons_succ, rowCells_some, cells_agg, List.drop_zero, List.take_succ_cons, List.take_zero, List.drop_succ_cons, mk_agg, mk_one, Nat.reduceAdd, Nat.reduceLeDiff, Nat.zero_add, List.length_cons, List.length_nil, List.flatMap_cons, List.flatMap_nil, cells_int, List.cons_append, List.nil_append, List.append_nil, true_and, and_true, Nat.reduceMul, Nat.add_zero, binS_sub, hs1, ih, hw, dS_len]; first | done | rfl)
                     | rfl
                     · (simp only [setV_cons, setV_nil, Nat.reduceEqDiff, if_true, if_false, reduceIte]; rfl))
              rfl
            · kernel_rfl
            · rfl
            · (simp only [trim]; rfl)
        simp only [Aa, Ab, Ac, Ad, Ae, Af, Ag, Ah, Ai, Aj, Ak, Al, Am, Ao, Ap, Aq, Ar, Au, Av, Aw, Ay, Az, Ba, Bb, Bc, Bd, Be, Bf, Bg, Bh, Bi, Bj, Bk, Bl, Bm, Bn, Bo, Bp, Bq, Br, Bs, Bt, Bv, Bw, Bx, Bz, Ca, Cb, Cc, Cd, Ce, Cf, Cg, Ch, Ci, Cj, Ck, Cl, Cm, Cn, Co, Cp, Cq, Cr, Cs, Ct, Cu, Cv, Cw, Cy, Cz, Da, Db, Dc, De, Df, Dg, Dh, Di, Dj, Dk, Dl, Dm, Dn, Option.map_some, Dp, Dq, Dr, Dt, Du, Dv, Dw, Dx, Dy, Dz, Ea, Eb, Ec, Ed, Ee, Ef, Eg, Eh, Ei, Ej, Ek, El, Em, Eo, Ep, Er, Es, Et, Eu, Ev, Ew, Ey, Ez, Fa, Fb, Fc, Fe, Ff, Fg, Fh, Fj, Fl, Fm, Fp, Fq, Fs, Ft, Fu, Fv, Fw, Fx, Fy, Fz, Ga, Gb, Gc, Gd, Ge, Gf, Gg, Gh, Gi, Gj, Nat.reduceEqDiff, Nat.reduceAdd, Nat.reduceMul, Nat.reduceLT, Nat.reduceLeDiff, ↓reduceIte, Ml, Mm, Nat.reduceBEq, Mn, Mo, Mp, Mq, reduceCtorEq, Mr, Ms, Gk, Gl, Gm, Gn, Gp, Gq, Gr, Gs, Gt, Gu, Gv, Gw, Gx, Gy, Gz, Ha, Hb, Hc, Hd, He, Hf, Hg, Hh, Hj, Hk, Hl, Hm, Hn, Ho, Hq, Hr, Hs, Ht, Hu, Hv, Hw, Hy, Hz, Ia, Ib, Ic, Ie, Ig, Ih, Ii, Ij, Ik, Il, Im, Io, Ip, Iq, Ir, Iu, Iv, Iw, Iy, Iz, Ja, Jb, Jc, Jd, Je, Jf, Jg, Jh, Ji, Jj, Jk, Jl, Jm, Jn, Jo, Jp, Jq, Jr, Js, Jt, Ju, Jv, Jw, Jy, Jz, Ka, Kb, Kc, Ke, Kf, Kg, Kh, Ki, Kj, Kk, Kl, Km, Kn, Ko, Kq, Kr, Ks, Kt, Ku, Kv, Kw, Kx, Ky, Kz, La, Lb, Lc, Ld, Le, Lf, Lg, Lh, Li, Lj, Ll, Lm, Ln, Lp, and_self, true_and, and_true, Mt, Mu, Mv, Mw, Mx, My, Mz, Na, Nb, Nc, Nd, Nf, Ng, Nh, Int.reduceToNat, Int.reduceLT, Int.reduceEq, Int.reduceLE, List.getElem?_cons_zero, List.getElem?_cons_succ, Lr, Ls, Lt, Ni, Nj, Nk, Nl, gt_iff_lt, ge_iff_le, Lu, Lv, Lw, Lx, Ly, Ma, Nn, Np, Mb, Mc, Md, Me, Mf, Mg, Mh, Mi, Mj, Mk, Nq, Nr, op_call_deep _ _ T.e20 rfl, hj, Q.s, joinQ, List.flatMap_cons, List.flatMap_nil, List.cons_append, List.nil_append]
      · have hlt' : ¬ (i : Int) < ((spl n : Nat) : Int) := by omega
        rw [if_neg hlt] at hP ⊢
        have h2 : ¬ ((P.length : Nat) : Int) = 0 := by omega
        have hw : IntKind.i64.wrap ((P.length : Int) - 1) = ((P.length - 1 : Nat) : Int) := by
          rw [show (P.length : Int) - 1 = ((P.length - 1 : Nat) : Int) by omega]
          exact wrap_i64 (by omega) (by omega)
        have hwi : IntKind.i64.wrap ((i : Int) - ((spl n : Nat) : Int)) = ((i - spl n : Nat) : Int) := by
          rw [show (i : Int) - ((spl n : Nat) : Int) = ((i - spl n : Nat) : Int) by omega]
          exact wrap_i64 (by omega) (by omega)
        have hwn : IntKind.i64.wrap ((n : Int) - ((spl n : Nat) : Int)) = ((n - spl n : Nat) : Int) := by
          rw [show (n : Int) - ((spl n : Nat) : Int) = ((n - spl n : Nat) : Int) by omega]
          exact wrap_i64 (by omega) (by omega)
        have hia := fun hp => iaddr_dS (hp := hp) (f := f) (p := p) (P := P) (j := P.length - 1) (by omega)
        have hs1 : ∀ (fr : Fr) vars hp, sliceR ⟨fr, vars, hp⟩ (some 4) (.list f p (dS P)) none (some (.int .i64 ((P.length - 1 : Nat) : Int))) = some (.list (f && P.length - 1 == P.length) p (dS (P.take (P.length - 1))), [], []) := by
          intro fr vars hp
          simp [sliceR, bnd, dS_esz, dS_len, dS_take]
        have ih := fun f p hp => d_lead250 T h250 m x (i - spl n) (n - spl n) f p (P.take (P.length - 1)) hp (by omega) (by omega) (by omega) (by rw [List.length_take]; omega)
        have hj := fun (x y : Q) hp => d_join20 T.e26 T.e13 T.e12 T.e20 x.a x.b x.c x.d y.a y.b y.c y.d hp
        simp only [Q.s] at ih hj
        simp only [Aa, Ab, Ac, Ad, Ae, Af, Ag, Ah, Ai, Aj, Ak, Al, Am, Ao, Ap, Aq, Ar, Au, Av, Aw, Ay, Az, Ba, Bb, Bc, Bd, Be, Bf, Bg, Bh, Bi, Bj, Bk, Bl, Bm, Bn, Bo, Bp, Bq, Br, Bs, Bt, Bv, Bw, Bx, Bz, Ca, Cb, Cc, Cd, Ce, Cf, Cg, Ch, Ci, Cj, Ck, Cl, Cm, Cn, Co, Cp, Cq, Cr, Cs, Ct, Cu, Cv, Cw, Cy, Cz, Da, Db, Dc, De, Df, Dg, Dh, Di, Dj, Dk, Dl, Dm, Dn, Option.map_some, Dp, Dq, Dr, Dt, Du, Dv, Dw, Dx, Dy, Dz, Ea, Eb, Ec, Ed, Ee, Ef, Eg, Eh, Ei, Ej, Ek, El, Em, Eo, Ep, Er, Es, Et, Eu, Ev, Ew, Ey, Ez, Fa, Fb, Fc, Fe, Ff, Fg, Fh, Fj, Fl, Fm, Fp, Fq, Fs, Ft, Fu, Fv, Fw, Fx, Fy, Fz, Ga, Gb, Gc, Gd, Ge, Gf, Gg, Gh, Gi, Gj, Nat.reduceEqDiff, Nat.reduceAdd, Nat.reduceMul, Nat.reduceLT, Nat.reduceLeDiff, ↓reduceIte, Ml, Mm, Nat.reduceBEq, Mn, Mo, Mp, Mq, reduceCtorEq, Mr, Ms, Gk, Gl, Gm, Gn, Gp, Gq, Gr, Gs, Gt, Gu, Gv, Gw, Gx, Gy, Gz, Ha, Hb, Hc, Hd, He, Hf, Hg, Hh, Hj, Hk, Hl, Hm, Hn, Ho, Hq, Hr, Hs, Ht, Hu, Hv, Hw, Hy, Hz, Ia, Ib, Ic, Ie, Ig, Ih, Ii, Ij, Ik, Il, Im, Io, Ip, Iq, Ir, Iu, Iv, Iw, Iy, Iz, Ja, Jb, Jc, Jd, Je, Jf, Jg, Jh, Ji, Jj, Jk, Jl, Jm, Jn, Jo, Jp, Jq, Jr, Js, Jt, Ju, Jv, Jw, Jy, Jz, Ka, Kb, Kc, Ke, Kf, Kg, Kh, Ki, Kj, Kk, Kl, Km, Kn, Ko, Kq, Kr, Ks, Kt, Ku, Kv, Kw, Kx, Ky, Kz, La, Lb, Lc, Ld, Le, Lf, Lg, Lh, Li, Lj, Ll, Lm, Ln, Lp, and_self, true_and, and_true, Mt, Mu, Mv, Mw, Mx, My, Mz, Na, Nb, Nc, Nd, Nf, Ng, Nh, Int.reduceToNat, Int.reduceLT, Int.reduceEq, Int.reduceLE, List.getElem?_cons_zero, List.getElem?_cons_succ, Lr, Ls, Lt, Ni, Nj, Nk, Nl, gt_iff_lt, ge_iff_le, Lu, Lv, Lw, Lx, Ly, Ma, Nn, Np, Mb, Mc, Md, Me, Mf, Mg, Mh, Mi, Mj, Mk, Nq, Nr, dS_len, h1', h2, decide_false, op_call_deep _ _ T.e251 rfl, hs, hlt', hw]
        conv in (Run E (.dregion d250_0) _) =>
          tactic =>
            apply regionD_by
            · (simp only [d250_0, deads, K.allocs, if_true, if_false, Bool.false_eq_true, List.cons_append, List.nil_append, reduceIte]; rfl)
            · repeat
                first
                  | (apply runD_q rfl rfl
                     · first
                     | exact ev_iaddr_dS (P := P) (j := P.length - 1) (by omega) rfl rfl
                     | (simp only [evalK_callo, evalK, evs, A.ev, evo, evp, evq, getF_cons, Nat.reduceEqDiff, if_false, if_true, reduceIte, Option.map_some, Option.bind_some, loadR, getV_cons, getV_nil, cellsAt_eq, List.getElem?_cons_zero, List.getElem?_cons_succ, rowCells_some, cells_agg, List.drop_zero, List.take_succ_cons, List.take_zero, List.drop_succ_cons, mk_agg, mk_one, Nat.reduceAdd, Nat.reduceLeDiff, Nat.zero_add, List.length_cons, List.length_nil, List.flatMap_cons, List.flatMap_nil, cells_int, List.cons_append, List.nil_append, List.append_nil, true_and, and_true, Nat.reduceMul, Nat.add_zero, binS_sub, hs, dS_len, hw]; first | done | rfl)
                     | rfl)
                  | (apply runD_a rfl rfl rfl
                     · first
                     | exact ev_iaddr_dS (P := P) (j := P.length - 1) (by omega) rfl rfl
                     | (simp only [evalK_callo, evalK, evs, A.ev, evo, evp, evq, getF_cons, Nat.reduceEqDiff, if_false, if_true, reduceIte, Option.map_some, Option.bind_some, loadR, getV_cons, getV_nil, cellsAt_eq, List.getElem?_cons_zero, List.getElem?_cons_succ, rowCells_some, cells_agg, List.drop_zero, List.take_succ_cons, List.take_zero, List.drop_succ_cons, mk_agg, mk_one, Nat.reduceAdd, Nat.reduceLeDiff, Nat.zero_add, List.length_cons, List.length_nil, List.flatMap_cons, List.flatMap_nil, cells_int, List.cons_append, List.nil_append, List.append_nil, true_and, and_true, Nat.reduceMul, Nat.add_zero, binS_sub, hs, dS_len, hw]; first | done | rfl)
                     | rfl)
                  | (apply runD_w rfl rfl rfl
                     · first
                     | exact ev_iaddr_dS (P := P) (j := P.length - 1) (by omega) rfl rfl
                     | (simp only [evalK_callo, evalK, evs, A.ev, evo, evp, evq, getF_cons, Nat.reduceEqDiff, if_false, if_true, reduceIte, Option.map_some, Option.bind_some, loadR, getV_cons, getV_nil, cellsAt_eq, List.getElem?_cons_zero, List.getElem?_cons_succ, rowCells_some, cells_agg, List.drop_zero, List.take_succ_cons, List.take_zero, List.drop_succ_cons, mk_agg, mk_one, Nat.reduceAdd, Nat.reduceLeDiff, Nat.zero_add, List.length_cons, List.length_nil, List.flatMap_cons, List.flatMap_nil, cells_int, List.cons_append, List.nil_append, List.append_nil, true_and, and_true, Nat.reduceMul, Nat.add_zero, binS_sub, hs, dS_len, hw]; first | done | rfl)
                     | rfl
                     · (simp only [List.length_cons, List.length_set, List.length_append, List.length_nil]; decide)
                     · (simp only [List.set_cons_zero, List.set_cons_succ, List.set_cons_zero]; rfl))
                  | (apply runD_sh rfl rfl
                     · first
                     | exact ev_iaddr_dS (P := P) (j := P.length - 1) (by omega) rfl rfl
                     | (simp only [evalK_callo, evalK, evs, A.ev, evo, evp, evq, getF_cons, Nat.reduceEqDiff, if_false, if_true, reduceIte, Option.map_some, Option.bind_some, loadR, getV_cons, getV_nil, cellsAt_eq, List.getElem?_cons_zero, List.getElem?_cons_succ, rowCells_some, cells_agg, List.drop_zero, List.take_succ_cons, List.take_zero, List.drop_succ_cons, mk_agg, mk_one, Nat.reduceAdd, Nat.reduceLeDiff, Nat.zero_add, List.length_cons, List.length_nil, List.flatMap_cons, List.flatMap_nil, cells_int, List.cons_append, List.nil_append, List.append_nil, true_and, and_true, Nat.reduceMul, Nat.add_zero, binS_sub, hs, dS_len, hw]; first | done | rfl)
                     | rfl
                     · (simp only [List.length_cons, List.length_set, List.length_append, List.length_nil]; decide)
                     · (simp only [List.set_cons_zero, List.set_cons_succ, List.set_cons_zero]; rfl))
                  | (apply runD_sv rfl rfl
                     · first
                     | exact ev_iaddr_dS (P := P) (j := P.length - 1) (by omega) rfl rfl
                     | (simp only [evalK_callo, evalK, evs, A.ev, evo, evp, evq, getF_cons, Nat.reduceEqDiff, if_false, if_true, reduceIte, Option.map_some, Option.bind_some, loadR, getV_cons, getV_nil, cellsAt_eq, List.getElem?_cons_zero, List.getElem?_cons_succ, rowCells_some, cells_agg, List.drop_zero, List.take_succ_cons, List.take_zero, List.drop_succ_cons, mk_agg, mk_one, Nat.reduceAdd, Nat.reduceLeDiff, Nat.zero_add, List.length_cons, List.length_nil, List.flatMap_cons, List.flatMap_nil, cells_int, List.cons_append, List.nil_append, List.append_nil, true_and, and_true, Nat.reduceMul, Nat.add_zero, binS_sub, hs, dS_len, hw]; first | done | rfl)
                     | rfl
                     · (simp only [setV_cons, setV_nil, Nat.reduceEqDiff, if_true, if_false, reduceIte]; rfl))
              rfl
            · kernel_rfl
            · rfl
            · (simp only [trim]; rfl)
        simp only [Aa, Ab, Ac, Ad, Ae, Af, Ag, Ah, Ai, Aj, Ak, Al, Am, Ao, Ap, Aq, Ar, Au, Av, Aw, Ay, Az, Ba, Bb, Bc, Bd, Be, Bf, Bg, Bh, Bi, Bj, Bk, Bl, Bm, Bn, Bo, Bp, Bq, Br, Bs, Bt, Bv, Bw, Bx, Bz, Ca, Cb, Cc, Cd, Ce, Cf, Cg, Ch, Ci, Cj, Ck, Cl, Cm, Cn, Co, Cp, Cq, Cr, Cs, Ct, Cu, Cv, Cw, Cy, Cz, Da, Db, Dc, De, Df, Dg, Dh, Di, Dj, Dk, Dl, Dm, Dn, Option.map_some, Dp, Dq, Dr, Dt, Du, Dv, Dw, Dx, Dy, Dz, Ea, Eb, Ec, Ed, Ee, Ef, Eg, Eh, Ei, Ej, Ek, El, Em, Eo, Ep, Er, Es, Et, Eu, Ev, Ew, Ey, Ez, Fa, Fb, Fc, Fe, Ff, Fg, Fh, Fj, Fl, Fm, Fp, Fq, Fs, Ft, Fu, Fv, Fw, Fx, Fy, Fz, Ga, Gb, Gc, Gd, Ge, Gf, Gg, Gh, Gi, Gj, Nat.reduceEqDiff, Nat.reduceAdd, Nat.reduceMul, Nat.reduceLT, Nat.reduceLeDiff, ↓reduceIte, Ml, Mm, Nat.reduceBEq, Mn, Mo, Mp, Mq, reduceCtorEq, Mr, Ms, Gk, Gl, Gm, Gn, Gp, Gq, Gr, Gs, Gt, Gu, Gv, Gw, Gx, Gy, Gz, Ha, Hb, Hc, Hd, He, Hf, Hg, Hh, Hj, Hk, Hl, Hm, Hn, Ho, Hq, Hr, Hs, Ht, Hu, Hv, Hw, Hy, Hz, Ia, Ib, Ic, Ie, Ig, Ih, Ii, Ij, Ik, Il, Im, Io, Ip, Iq, Ir, Iu, Iv, Iw, Iy, Iz, Ja, Jb, Jc, Jd, Je, Jf, Jg, Jh, Ji, Jj, Jk, Jl, Jm, Jn, Jo, Jp, Jq, Jr, Js, Jt, Ju, Jv, Jw, Jy, Jz, Ka, Kb, Kc, Ke, Kf, Kg, Kh, Ki, Kj, Kk, Kl, Km, Kn, Ko, Kq, Kr, Ks, Kt, Ku, Kv, Kw, Kx, Ky, Kz, La, Lb, Lc, Ld, Le, Lf, Lg, Lh, Li, Lj, Ll, Lm, Ln, Lp, and_self, true_and, and_true, Mt, Mu, Mv, Mw, Mx, My, Mz, Na, Nb, Nc, Nd, Nf, Ng, Nh, Int.reduceToNat, Int.reduceLT, Int.reduceEq, Int.reduceLE, List.getElem?_cons_zero, List.getElem?_cons_succ, Lr, Ls, Lt, Ni, Nj, Nk, Nl, gt_iff_lt, ge_iff_le, Lu, Lv, Lw, Lx, Ly, Ma, Nn, Np, Mb, Mc, Md, Me, Mf, Mg, Mh, Mi, Mj, Mk, Nq, Nr, hlt', decide_false]
        conv in (Run E (.dregion d250_2) _) =>
          tactic =>
            apply regionD_by
            · (simp only [d250_2, deads, K.allocs, if_true, if_false, Bool.false_eq_true, List.cons_append, List.nil_append, reduceIte]; rfl)
            · repeat
                first
                  | (apply runD_q rfl rfl
                     · first
                     | (simp only [evalK_callo, evalK, evs, A.ev, evo, evp, evq, getF_cons, Nat.reduceEqDiff, if_false, if_true, reduceIte, Option.map_some, Option.bind_some, loadR, getV_cons, getV_nil, cellsAt_eq, List.getElem?_cons_zero, List.getElem?_cons_succ, rowCells_some, cells_agg, List.drop_zero, List.take_succ_cons, List.take_zero, List.drop_succ_cons, mk_agg, mk_one, Nat.reduceAdd, Nat.reduceLeDiff, Nat.zero_add, List.length_cons, List.length_nil, List.flatMap_cons, List.flatMap_nil, cells_int, List.cons_append, List.nil_append, List.append_nil, true_and, and_true, Nat.reduceMul, Nat.add_zero, binS_sub, hs1, ih, hwi, hwn, hw, dS_len]; first | done | rfl)
                     | rfl)
                  | (apply runD_a rfl rfl rfl
                     · first
                     | (simp only [evalK_callo, evalK, evs, A.ev, evo, evp, evq, getF_cons, Nat.reduceEqDiff, if_false, if_true, reduceIte, Option.map_some, Option.bind_some, loadR, getV_cons, getV_nil, cellsAt_eq, List.getElem?_cons_zero, List.getElem?_cons_succ, rowCells_some, cells_agg, List.drop_zero, List.take_succ_cons, List.take_zero, List.drop_succ_cons, mk_agg, mk_one, Nat.reduceAdd, Nat.reduceLeDiff, Nat.zero_add, List.length_cons, List.length_nil, List.flatMap_cons, List.flatMap_nil, cells_int, List.cons_append, List.nil_append, List.append_nil, true_and, and_true, Nat.reduceMul, Nat.add_zero, binS_sub, hs1, ih, hwi, hwn, hw, dS_len]; first | done | rfl)
                     | rfl)
                  | (apply runD_w rfl rfl rfl
                     · first
                     | (simp only [evalK_callo, evalK, evs, A.ev, evo, evp, evq, getF_cons, Nat.reduceEqDiff, if_false, if_true, reduceIte, Option.map_some, Option.bind_some, loadR, getV_cons, getV_nil, cellsAt_eq, List.getElem?_cons_zero, List.getElem?_cons_succ, rowCells_some, cells_agg, List.drop_zero, List.take_succ_cons, List.take_zero, List.drop_succ_cons, mk_agg, mk_one, Nat.reduceAdd, Nat.reduceLeDiff, Nat.zero_add, List.length_cons, List.length_nil, List.flatMap_cons, List.flatMap_nil, cells_int, List.cons_append, List.nil_append, List.append_nil, true_and, and_true, Nat.reduceMul, Nat.add_zero, binS_sub, hs1, ih, hwi, hwn, hw, dS_len]; first | done | rfl)
                     | rfl
                     · (simp only [List.length_cons, List.length_set, List.length_append, List.length_nil]; decide)
                     · (simp only [List.set_cons_zero, List.set_cons_succ, List.set_cons_zero]; rfl))
                  | (apply runD_sh rfl rfl
                     · first
                     | (simp only [evalK_callo, evalK, evs, A.ev, evo, evp, evq, getF_cons, Nat.reduceEqDiff, if_false, if_true, reduceIte, Option.map_some, Option.bind_some, loadR, getV_cons, getV_nil, cellsAt_eq, List.getElem?_cons_zero, List.getElem?_cons_succ, rowCells_some, cells_agg, List.drop_zero, List.take_succ_cons, List.take_zero, List.drop_succ_cons, mk_agg, mk_one, Nat.reduceAdd, Nat.reduceLeDiff, Nat.zero_add, List.length_cons, List.length_nil, List.flatMap_cons, List.flatMap_nil, cells_int, List.cons_append, List.nil_append, List.append_nil, true_and, and_true, Nat.reduceMul, Nat.add_zero, binS_sub, hs1, ih, hwi, hwn, hw, dS_len]; first | done | rfl)
                     | rfl
                     · (simp only [List.length_cons, List.length_set, List.length_append, List.length_nil]; decide)
                     · (simp only [List.set_cons_zero, List.set_cons_succ, List.set_cons_zero]; rfl))
                  | (apply runD_sv rfl rfl
                     · first
                     | (simp only [evalK_callo, evalK, evs, A.ev, evo, evp, evq, getF_cons, Nat.reduceEqDiff, if_false, if_true, reduceIte, Option.map_some, Option.bind_some, loadR, getV_cons, getV_nil, cellsAt_eq, List.getElem?_cons_zero, List.getElem?_cons_succ, rowCells_some, cells_agg, List.drop_zero, List.take_succ_cons, List.take_zero, List.drop_succ_cons, mk_agg, mk_one, Nat.reduceAdd, Nat.reduceLeDiff, Nat.zero_add, List.length_cons, List.length_nil, List.flatMap_cons, List.flatMap_nil, cells_int, List.cons_append, List.nil_append, List.append_nil, true_and, and_true, Nat.reduceMul, Nat.add_zero, binS_sub, hs1, ih, hwi, hwn, hw, dS_len]; first | done | rfl)
                     | rfl
                     · (simp only [setV_cons, setV_nil, Nat.reduceEqDiff, if_true, if_false, reduceIte]; rfl))
              rfl
            · kernel_rfl
            · rfl
            · (simp only [trim]; rfl)
        simp only [Aa, Ab, Ac, Ad, Ae, Af, Ag, Ah, Ai, Aj, Ak, Al, Am, Ao, Ap, Aq, Ar, Au, Av, Aw, Ay, Az, Ba, Bb, Bc, Bd, Be, Bf, Bg, Bh, Bi, Bj, Bk, Bl, Bm, Bn, Bo, Bp, Bq, Br, Bs, Bt, Bv, Bw, Bx, Bz, Ca, Cb, Cc, Cd, Ce, Cf, Cg, Ch, Ci, Cj, Ck, Cl, Cm, Cn, Co, Cp, Cq, Cr, Cs, Ct, Cu, Cv, Cw, Cy, Cz, Da, Db, Dc, De, Df, Dg, Dh, Di, Dj, Dk, Dl, Dm, Dn, Option.map_some, Dp, Dq, Dr, Dt, Du, Dv, Dw, Dx, Dy, Dz, Ea, Eb, Ec, Ed, Ee, Ef, Eg, Eh, Ei, Ej, Ek, El, Em, Eo, Ep, Er, Es, Et, Eu, Ev, Ew, Ey, Ez, Fa, Fb, Fc, Fe, Ff, Fg, Fh, Fj, Fl, Fm, Fp, Fq, Fs, Ft, Fu, Fv, Fw, Fx, Fy, Fz, Ga, Gb, Gc, Gd, Ge, Gf, Gg, Gh, Gi, Gj, Nat.reduceEqDiff, Nat.reduceAdd, Nat.reduceMul, Nat.reduceLT, Nat.reduceLeDiff, ↓reduceIte, Ml, Mm, Nat.reduceBEq, Mn, Mo, Mp, Mq, reduceCtorEq, Mr, Ms, Gk, Gl, Gm, Gn, Gp, Gq, Gr, Gs, Gt, Gu, Gv, Gw, Gx, Gy, Gz, Ha, Hb, Hc, Hd, He, Hf, Hg, Hh, Hj, Hk, Hl, Hm, Hn, Ho, Hq, Hr, Hs, Ht, Hu, Hv, Hw, Hy, Hz, Ia, Ib, Ic, Ie, Ig, Ih, Ii, Ij, Ik, Il, Im, Io, Ip, Iq, Ir, Iu, Iv, Iw, Iy, Iz, Ja, Jb, Jc, Jd, Je, Jf, Jg, Jh, Ji, Jj, Jk, Jl, Jm, Jn, Jo, Jp, Jq, Jr, Js, Jt, Ju, Jv, Jw, Jy, Jz, Ka, Kb, Kc, Ke, Kf, Kg, Kh, Ki, Kj, Kk, Kl, Km, Kn, Ko, Kq, Kr, Ks, Kt, Ku, Kv, Kw, Kx, Ky, Kz, La, Lb, Lc, Ld, Le, Lf, Lg, Lh, Li, Lj, Ll, Lm, Ln, Lp, and_self, true_and, and_true, Mt, Mu, Mv, Mw, Mx, My, Mz, Na, Nb, Nc, Nd, Nf, Ng, Nh, Int.reduceToNat, Int.reduceLT, Int.reduceEq, Int.reduceLE, List.getElem?_cons_zero, List.getElem?_cons_succ, Lr, Ls, Lt, Ni, Nj, Nk, Nl, gt_iff_lt, ge_iff_le, Lu, Lv, Lw, Lx, Ly, Ma, Nn, Np, Mb, Mc, Md, Me, Mf, Mg, Mh, Mi, Mj, Mk, Nq, Nr, op_call_deep _ _ T.e20 rfl, hj, Q.s, joinQ, List.flatMap_cons, List.flatMap_nil, List.cons_append, List.nil_append]
end Go.Proofs.Ytkafliflpplpeaa.Sim
namespace Go.Proofs.Ytkafliflpplpeaa.Sim
set_option linter.unusedSimpArgs false
set_option linter.unusedVariables false
open Go
set_option maxRecDepth 100000
set_option linter.unusedSimpArgs false

theorem pathQ_dep : ∀ (m : Nat) (l : List Q) (i : Nat), l.length ≤ m → i < l.length → (pathQ m l i).length = dep m l.length i
  | 0, l, i, h, hi => by omega
  | m + 1, l, i, h, hi => by
    rw [pathQ, dep]
    by_cases h1 : l.length = 1
    · rw [if_pos h1, if_pos h1]; rfl
    · have hb := spl_bd (n := l.length) (by omega)
      rw [if_neg h1, if_neg h1]
      by_cases hlt : i < spl l.length
      · rw [if_pos hlt, if_pos hlt, List.length_append, pathQ_dep m (l.take (spl l.length)) i (by rw [List.length_take]; omega) (by rw [List.length_take]; omega), List.length_take, Nat.min_eq_left (by omega)]
        rfl
      · rw [if_neg hlt, if_neg hlt, List.length_append, pathQ_dep m (l.drop (spl l.length)) (i - spl l.length) (by rw [List.length_drop]; omega) (by rw [List.length_drop]; omega), List.length_drop]
        rfl

theorem leadQ_pathQ : ∀ (m : Nat) (l : List Q) (i : Nat) (x : Q), l.length ≤ m → l[i]? = some x → leadQ m (leafQ x) i l.length (pathQ m l i) = rt l
  | 0, l, i, x, h, hx => by
    obtain rfl : l = [] := List.eq_nil_of_length_eq_zero (by omega)
    simp at hx
  | m + 1, l, i, x, h, hx => by
    have hi : i < l.length := (List.getElem?_eq_some_iff.1 hx).1
    rw [pathQ, leadQ]
    by_cases h1 : l.length = 1
    · rw [if_pos h1]
      match l, h1 with
      | [y], _ =>
        have : i = 0 := by simp at hi; omega
        subst this
        simp at hx
        rw [hx, rt_one]
    · have hb := spl_bd (n := l.length) (by omega)
      rw [if_neg h1, if_neg h1]
      by_cases hlt : i < spl l.length
      · rw [if_pos hlt, if_pos hlt]
        simp only [List.length_append, List.length_cons, List.length_nil, Nat.add_sub_cancel, Nat.zero_add]
        have ih := leadQ_pathQ m (l.take (spl l.length)) i x (by rw [List.length_take]; omega) (by rw [List.getElem?_take, if_pos hlt]; exact hx)
        rw [List.length_take, Nat.min_eq_left (by omega)] at ih
        rw [List.take_left, ih, rt_split (l := l) (by omega)]
        congr 1
        simp [List.getD]
      · rw [if_neg hlt, if_neg hlt]
        simp only [List.length_append, List.length_cons, List.length_nil, Nat.add_sub_cancel, Nat.zero_add]
        have ih := leadQ_pathQ m (l.drop (spl l.length)) (i - spl l.length) x (by rw [List.length_drop]; omega) (by rw [List.getElem?_drop, show spl l.length + (i - spl l.length) = i by omega]; exact hx)
        rw [List.length_drop] at ih
        rw [List.take_left, ih, rt_split (l := l) (by omega)]
        congr 1
        simp [List.getD]


theorem d_Lead237 {E : Env} (T : HasT E) (h249 : E 249 = some (.code c249)) (h237 : E 237 = some (.code c237)) (x : Q) (i n : Nat) (f p : Bool) (P : List Q) (hp : Hp) (hn : n ≤ 256) (hi : i < n) (hP : P.length = dep n n i) :
    deepE E (Call E) 237 [x.s, .int .i64 i, .int .i64 n, .list f p (dS P)] hp = some (.tup [(leadQ n x i n P).s, .int .i64 0]) := by
  have hl := fun f p hp => d_lead249 T h249 n x i n f p P hp (Nat.le_refl _) (by omega) hi hP
  rw [deep_code h237 rfl, deep_go]
  simp only [Q.s] at hl ⊢
  simp only [mapO_nil, mapO_cons, consO_some, snapA_list, snapA_int, snapA_agg, snapC_int, aggO_some, goD_some]
  rw [Call_mk E h237 _ _ rfl]
  have c1 : ¬ (256 : Int) < (n : Int) := by omega
  have c2 : ¬ (i : Int) < 0 := by omega
  have c3 : ¬ (n : Int) ≤ (i : Int) := by omega
  simp only [Aa, Ab, Ac, Ad, Ae, Af, Ag, Ah, Ai, Aj, Ak, Al, Am, Ao, Ap, Aq, Ar, Au, Av, Aw, Ay, Az, Ba, Bb, Bc, Bd, Be, Bf, Bg, Bh, Bi, Bj, Bk, Bl, Bm, Bn, Bo, Bp, Bq, Br, Bs, Bt, Bv, Bw, Bx, Bz, Ca, Cb, Cc, Cd, Ce, Cf, Cg, Ch, Ci, Cj, Ck, Cl, Cm, Cn, Co, Cp, Cq, Cr, Cs, Ct, Cu, Cv, Cw, Cy, Cz, Da, Db, Dc, De, Df, Dg, Dh, Di, Dj, Dk, Dl, Dm, Dn, Option.map_some, Dp, Dq, Dr, Dt, Du, Dv, Dw, Dx, Dy, Dz, Ea, Eb, Ec, Ed, Ee, Ef, Eg, Eh, Ei, Ej, Ek, El, Em, Eo, Ep, Er, Es, Et, Eu, Ev, Ew, Ey, Ez, Fa, Fb, Fc, Fe, Ff, Fg, Fh, Fj, Fl, Fm, Fp, Fq, Fs, Ft, Fu, Fv, Fw, Fx, Fy, Fz, Ga, Gb, Gc, Gd, Ge, Gf, Gg, Gh, Gi, Gj, Nat.reduceEqDiff, Nat.reduceAdd, Nat.reduceMul, Nat.reduceLT, Nat.reduceLeDiff, ↓reduceIte, Ml, Mm, Nat.reduceBEq, Mn, Mo, Mp, Mq, reduceCtorEq, Mr, Ms, Gk, Gl, Gm, Gn, Gp, Gq, Gr, Gs, Gt, Gu, Gv, Gw, Gx, Gy, Gz, Ha, Hb, Hc, Hd, He, Hf, Hg, Hh, Hj, Hk, Hl, Hm, Hn, Ho, Hq, Hr, Hs, Ht, Hu, Hv, Hw, Hy, Hz, Ia, Ib, Ic, Ie, Ig, Ih, Ii, Ij, Ik, Il, Im, Io, Ip, Iq, Ir, Iu, Iv, Iw, Iy, Iz, Ja, Jb, Jc, Jd, Je, Jf, Jg, Jh, Ji, Jj, Jk, Jl, Jm, Jn, Jo, Jp, Jq, Jr, Js, Jt, Ju, Jv, Jw, Jy, Jz, Ka, Kb, Kc, Ke, Kf, Kg, Kh, Ki, Kj, Kk, Kl, Km, Kn, Ko, Kq, Kr, Ks, Kt, Ku, Kv, Kw, Kx, Ky, Kz, La, Lb, Lc, Ld, Le, Lf, Lg, Lh, Li, Lj, Ll, Lm, Ln, Lp, and_self, true_and, and_true, Mt, Mu, Mv, Mw, Mx, My, Mz, Na, Nb, Nc, Nd, Nf, Ng, Nh, Int.reduceToNat, Int.reduceLT, Int.reduceEq, Int.reduceLE, List.getElem?_cons_zero, List.getElem?_cons_succ, Lr, Ls, Lt, Ni, Nj, Nk, Nl, gt_iff_lt, ge_iff_le, Lu, Lv, Lw, Lx, Ly, Ma, Nn, Np, Mb, Mc, Md, Me, Mf, Mg, Mh, Mi, Mj, Mk, Nq, Nr, c1, c2, c3, decide_false, op_call_deep _ _ h249 rfl, hl, Bool.not_true]
theorem d_Lead240 {E : Env} (T : HasT E) (h250 : E 250 = some (.code c250)) (h240 : E 240 = some (.code c240)) (x : Q) (i n : Nat) (f p : Bool) (P : List Q) (hp : Hp) (hn : n ≤ 256) (hi : i < n) (hP : P.length = dep n n i) :
    deepE E (Call E) 240 [x.s, .int .i64 i, .int .i64 n, .list f p (dS P)] hp = some (.tup [(leadQ n x i n P).s, .int .i64 0]) := by
  have hl := fun f p hp => d_lead250 T h250 n x i n f p P hp (Nat.le_refl _) (by omega) hi hP
  rw [deep_code h240 rfl, deep_go]
  simp only [Q.s] at hl ⊢
  simp only [mapO_nil, mapO_cons, consO_some, snapA_list, snapA_int, snapA_agg, snapC_int, aggO_some, goD_some]
  rw [Call_mk E h240 _ _ rfl]
  have c1 : ¬ (256 : Int) < (n : Int) := by omega
  have c2 : ¬ (i : Int) < 0 := by omega
  have c3 : ¬ (n : Int) ≤ (i : Int) := by omega
  simp only [Aa, Ab, Ac, Ad, Ae, Af, Ag, Ah, Ai, Aj, Ak, Al, Am, Ao, Ap, Aq, Ar, Au, Av, Aw, Ay, Az, Ba, Bb, Bc, Bd, Be, Bf, Bg, Bh, Bi, Bj, Bk, Bl, Bm, Bn, Bo, Bp, Bq, Br, Bs, Bt, Bv, Bw, Bx, Bz, Ca, Cb, Cc, Cd, Ce, Cf, Cg, Ch, Ci, Cj, Ck, Cl, Cm, Cn, Co, Cp, Cq, Cr, Cs, Ct, Cu, Cv, Cw, Cy, Cz, Da, Db, Dc, De, Df, Dg, Dh, Di, Dj, Dk, Dl, Dm, Dn, Option.map_some, Dp, Dq, Dr, Dt, Du, Dv, Dw, Dx, Dy, Dz, Ea, Eb, Ec, Ed, Ee, Ef, Eg, Eh, Ei, Ej, Ek, El, Em, Eo, Ep, Er, Es, Et, Eu, Ev, Ew, Ey, Ez, Fa, Fb, Fc, Fe, Ff, Fg, Fh, Fj, Fl, Fm, Fp, Fq, Fs, Ft, Fu, Fv, Fw, Fx, Fy, Fz, Ga, Gb, Gc, Gd, Ge, Gf, Gg, Gh, Gi, Gj, Nat.reduceEqDiff, Nat.reduceAdd, Nat.reduceMul, Nat.reduceLT, Nat.reduceLeDiff, ↓reduceIte, Ml, Mm, Nat.reduceBEq, Mn, Mo, Mp, Mq, reduceCtorEq, Mr, Ms, Gk, Gl, Gm, Gn, Gp, Gq, Gr, Gs, Gt, Gu, Gv, Gw, Gx, Gy, Gz, Ha, Hb, Hc, Hd, He, Hf, Hg, Hh, Hj, Hk, Hl, Hm, Hn, Ho, Hq, Hr, Hs, Ht, Hu, Hv, Hw, Hy, Hz, Ia, Ib, Ic, Ie, Ig, Ih, Ii, Ij, Ik, Il, Im, Io, Ip, Iq, Ir, Iu, Iv, Iw, Iy, Iz, Ja, Jb, Jc, Jd, Je, Jf, Jg, Jh, Ji, Jj, Jk, Jl, Jm, Jn, Jo, Jp, Jq, Jr, Js, Jt, Ju, Jv, Jw, Jy, Jz, Ka, Kb, Kc, Ke, Kf, Kg, Kh, Ki, Kj, Kk, Kl, Km, Kn, Ko, Kq, Kr, Ks, Kt, Ku, Kv, Kw, Kx, Ky, Kz, La, Lb, Lc, Ld, Le, Lf, Lg, Lh, Li, Lj, Ll, Lm, Ln, Lp, and_self, true_and, and_true, Mt, Mu, Mv, Mw, Mx, My, Mz, Na, Nb, Nc, Nd, Nf, Ng, Nh, Int.reduceToNat, Int.reduceLT, Int.reduceEq, Int.reduceLE, List.getElem?_cons_zero, List.getElem?_cons_succ, Lr, Ls, Lt, Ni, Nj, Nk, Nl, gt_iff_lt, ge_iff_le, Lu, Lv, Lw, Lx, Ly, Ma, Nn, Np, Mb, Mc, Md, Me, Mf, Mg, Mh, Mi, Mj, Mk, Nq, Nr, c1, c2, c3, decide_false, op_call_deep _ _ h250 rfl, hl, Bool.not_true]

/-! Dice. -/
def i64L (l : List Int) : List S := l.map (.int .i64)
theorem i64L_len (l : List Int) : (i64L l).length = l.length := by simp [i64L]
def dice (f p : Bool) (t : List Int) (a : Nat) : Blk := .rows false 2 [.agg [.list f p (i64L t), .int .i64 a]]

/-- A number and how far the list is used up. -/
def nextD (t : List Int) (a : Nat) (n : Int) : Int × Nat :=
  if t.length ≤ a ∨ n < 1 then (0, a) else
  (if (t.getD a 0).tmod n < 0 then (t.getD a 0).tmod n + n else (t.getD a 0).tmod n, a + 1)

theorem d_light {E : Env} (h166 : E 166 = some (.code c166)) (f p : Bool) (t : List Int) (hp : Hp) : deepE E (Call E) 166 [.list f p (i64L t)] hp = some (.bool (decide ((t.length : Int) ≤ 600))) := by
  rw [deep_code h166 rfl, deep_go]
  simp only [mapO_nil, mapO_cons, consO_some, snapA_list, goD_some]
  rw [Call_mk E h166 _ _ rfl]
  simp only [Aa, Ab, Ac, Ad, Ae, Af, Ag, Ah, Ai, Aj, Ak, Al, Am, Ao, Ap, Aq, Ar, Au, Av, Aw, Ay, Az, Ba, Bb, Bc, Bd, Be, Bf, Bg, Bh, Bi, Bj, Bk, Bl, Bm, Bn, Bo, Bp, Bq, Br, Bs, Bt, Bv, Bw, Bx, Bz, Ca, Cb, Cc, Cd, Ce, Cf, Cg, Ch, Ci, Cj, Ck, Cl, Cm, Cn, Co, Cp, Cq, Cr, Cs, Ct, Cu, Cv, Cw, Cy, Cz, Da, Db, Dc, De, Df, Dg, Dh, Di, Dj, Dk, Dl, Dm, Dn, Option.map_some, Dp, Dq, Dr, Dt, Du, Dv, Dw, Dx, Dy, Dz, Ea, Eb, Ec, Ed, Ee, Ef, Eg, Eh, Ei, Ej, Ek, El, Em, Eo, Ep, Er, Es, Et, Eu, Ev, Ew, Ey, Ez, Fa, Fb, Fc, Fe, Ff, Fg, Fh, Fj, Fl, Fm, Fp, Fq, Fs, Ft, Fu, Fv, Fw, Fx, Fy, Fz, Ga, Gb, Gc, Gd, Ge, Gf, Gg, Gh, Gi, Gj, Nat.reduceEqDiff, Nat.reduceAdd, Nat.reduceMul, Nat.reduceLT, Nat.reduceLeDiff, ↓reduceIte, Ml, Mm, Nat.reduceBEq, Mn, Mo, Mp, Mq, reduceCtorEq, Mr, Ms, Gk, Gl, Gm, Gn, Gp, Gq, Gr, Gs, Gt, Gu, Gv, Gw, Gx, Gy, Gz, Ha, Hb, Hc, Hd, He, Hf, Hg, Hh, Hj, Hk, Hl, Hm, Hn, Ho, Hq, Hr, Hs, Ht, Hu, Hv, Hw, Hy, Hz, Ia, Ib, Ic, Ie, Ig, Ih, Ii, Ij, Ik, Il, Im, Io, Ip, Iq, Ir, Iu, Iv, Iw, Iy, Iz, Ja, Jb, Jc, Jd, Je, Jf, Jg, Jh, Ji, Jj, Jk, Jl, Jm, Jn, Jo, Jp, Jq, Jr, Js, Jt, Ju, Jv, Jw, Jy, Jz, Ka, Kb, Kc, Ke, Kf, Kg, Kh, Ki, Kj, Kk, Kl, Km, Kn, Ko, Kq, Kr, Ks, Kt, Ku, Kv, Kw, Kx, Ky, Kz, La, Lb, Lc, Ld, Le, Lf, Lg, Lh, Li, Lj, Ll, Lm, Ln, Lp, and_self, true_and, and_true, Mt, Mu, Mv, Mw, Mx, My, Mz, Na, Nb, Nc, Nd, Nf, Ng, Nh, Int.reduceToNat, Int.reduceLT, Int.reduceEq, Int.reduceLE, List.getElem?_cons_zero, List.getElem?_cons_succ, Lr, Ls, Lt, Ni, Nj, Nk, Nl, gt_iff_lt, ge_iff_le, Lu, Lv, Lw, Lx, Ly, Ma, Nn, Np, Mb, Mc, Md, Me, Mf, Mg, Mh, Mi, Mj, Mk, Nq, Nr, i64L_len]

theorem outable_ptr (l v o n) : S.outable (.ptr l v o n) = true := rfl
theorem c_roll {E : Env} (h168 : E 168 = some (.code c168)) (f p : Bool) (t : List Int) (H : Hp) : Call E 168 [.list f p (i64L t)] H = some (.ptr H.length 1 0 0, H ++ [dice f p t 0]) := by
  rw [Call_mk E h168 _ _ rfl]
  simp only [Aa, Ab, Ac, Ad, Ae, Af, Ag, Ah, Ai, Aj, Ak, Al, Am, Ao, Ap, Aq, Ar, Au, Av, Aw, Ay, Az, Ba, Bb, Bc, Bd, Be, Bf, Bg, Bh, Bi, Bj, Bk, Bl, Bm, Bn, Bo, Bp, Bq, Br, Bs, Bt, Bv, Bw, Bx, Bz, Ca, Cb, Cc, Cd, Ce, Cf, Cg, Ch, Ci, Cj, Ck, Cl, Cm, Cn, Co, Cp, Cq, Cr, Cs, Ct, Cu, Cv, Cw, Cy, Cz, Da, Db, Dc, De, Df, Dg, Dh, Di, Dj, Dk, Dl, Dm, Dn, Option.map_some, Dp, Dq, Dr, Dt, Du, Dv, Dw, Dx, Dy, Dz, Ea, Eb, Ec, Ed, Ee, Ef, Eg, Eh, Ei, Ej, Ek, El, Em, Eo, Ep, Er, Es, Et, Eu, Ev, Ew, Ey, Ez, Fa, Fb, Fc, Fe, Ff, Fg, Fh, Fj, Fl, Fm, Fp, Fq, Fs, Ft, Fu, Fv, Fw, Fx, Fy, Fz, Ga, Gb, Gc, Gd, Ge, Gf, Gg, Gh, Gi, Gj, Nat.reduceEqDiff, Nat.reduceAdd, Nat.reduceMul, Nat.reduceLT, Nat.reduceLeDiff, ↓reduceIte, Ml, Mm, Nat.reduceBEq, Mn, Mo, Mp, Mq, reduceCtorEq, Mr, Ms, Gk, Gl, Gm, Gn, Gp, Gq, Gr, Gs, Gt, Gu, Gv, Gw, Gx, Gy, Gz, Ha, Hb, Hc, Hd, He, Hf, Hg, Hh, Hj, Hk, Hl, Hm, Hn, Ho, Hq, Hr, Hs, Ht, Hu, Hv, Hw, Hy, Hz, Ia, Ib, Ic, Ie, Ig, Ih, Ii, Ij, Ik, Il, Im, Io, Ip, Iq, Ir, Iu, Iv, Iw, Iy, Iz, Ja, Jb, Jc, Jd, Je, Jf, Jg, Jh, Ji, Jj, Jk, Jl, Jm, Jn, Jo, Jp, Jq, Jr, Js, Jt, Ju, Jv, Jw, Jy, Jz, Ka, Kb, Kc, Ke, Kf, Kg, Kh, Ki, Kj, Kk, Kl, Km, Kn, Ko, Kq, Kr, Ks, Kt, Ku, Kv, Kw, Kx, Ky, Kz, La, Lb, Lc, Ld, Le, Lf, Lg, Lh, Li, Lj, Ll, Lm, Ln, Lp, and_self, true_and, and_true, Mt, Mu, Mv, Mw, Mx, My, Mz, Na, Nb, Nc, Nd, Nf, Ng, Nh, Int.reduceToNat, Int.reduceLT, Int.reduceEq, Int.reduceLE, List.getElem?_cons_zero, List.getElem?_cons_succ, Lr, Ls, Lt, Ni, Nj, Nk, Nl, gt_iff_lt, ge_iff_le, Lu, Lv, Lw, Lx, Ly, Ma, Nn, Np, Mb, Mc, Md, Me, Mf, Mg, Mh, Mi, Mj, Mk, Nq, Nr, dice, Int.cast_ofNat_Int, outable_ptr]

theorem c_next {E : Env} (h178 : E 178 = some (.code c178)) (f p : Bool) (t : List Int) (ht : t.length ≤ 1000) (a : Nat) (ha : a ≤ t.length) (n : Int) (hn : 0 < n) (hn2 : n ≤ 4611686018427387904) (H : Hp) (hT : trim H = H) (l : Nat) (hl : H[l]? = some (dice f p t a)) :
    Call E 178 [.ptr l 1 0 0, .int .i64 n] H = some (.int .i64 (nextD t a n).1, H.set l (dice f p t (nextD t a n).2)) := by
  rw [Call_mk E h178 _ _ rfl]
  simp only [dice] at hl ⊢
  have hlt : l < H.length := (List.getElem?_eq_some_iff.1 hl).1
  have hne : ¬ l = H.length := by omega
  by_cases h1 : t.length ≤ a
  · have h1' : (t.length : Int) ≤ (a : Int) := by omega
    have hset : H.set l (.rows false 2 [.agg [.list f p (i64L t), .int .i64 a]]) = H := by
      apply List.ext_getElem?
      intro j
      by_cases hj : l = j
      · subst hj; rw [List.getElem?_set_self hlt, hl]
      · rw [List.getElem?_set_ne hj]
    simp only [Aa, Ab, Ac, Ad, Ae, Af, Ag, Ah, Ai, Aj, Ak, Al, Am, Ao, Ap, Aq, Ar, Au, Av, Aw, Ay, Az, Ba, Bb, Bc, Bd, Be, Bf, Bg, Bh, Bi, Bj, Bk, Bl, Bm, Bn, Bo, Bp, Bq, Br, Bs, Bt, Bv, Bw, Bx, Bz, Ca, Cb, Cc, Cd, Ce, Cf, Cg, Ch, Ci, Cj, Ck, Cl, Cm, Cn, Co, Cp, Cq, Cr, Cs, Ct, Cu, Cv, Cw, Cy, Cz, Da, Db, Dc, De, Df, Dg, Dh, Di, Dj, Dk, Dl, Dm, Dn, Option.map_some, Dp, Dq, Dr, Dt, Du, Dv, Dw, Dx, Dy, Dz, Ea, Eb, Ec, Ed, Ee, Ef, Eg, Eh, Ei, Ej, Ek, El, Em, Eo, Ep, Er, Es, Et, Eu, Ev, Ew, Ey, Ez, Fa, Fb, Fc, Fe, Ff, Fg, Fh, Fj, Fl, Fm, Fp, Fq, Fs, Ft, Fu, Fv, Fw, Fx, Fy, Fz, Ga, Gb, Gc, Gd, Ge, Gf, Gg, Gh, Gi, Gj, Nat.reduceEqDiff, Nat.reduceAdd, Nat.reduceMul, Nat.reduceLT, Nat.reduceLeDiff, ↓reduceIte, Ml, Mm, Nat.reduceBEq, Mn, Mo, Mp, Mq, reduceCtorEq, Mr, Ms, Gk, Gl, Gm, Gn, Gp, Gq, Gr, Gs, Gt, Gu, Gv, Gw, Gx, Gy, Gz, Ha, Hb, Hc, Hd, He, Hf, Hg, Hh, Hj, Hk, Hl, Hm, Hn, Ho, Hq, Hr, Hs, Ht, Hu, Hv, Hw, Hy, Hz, Ia, Ib, Ic, Ie, Ig, Ih, Ii, Ij, Ik, Il, Im, Io, Ip, Iq, Ir, Iu, Iv, Iw, Iy, Iz, Ja, Jb, Jc, Jd, Je, Jf, Jg, Jh, Ji, Jj, Jk, Jl, Jm, Jn, Jo, Jp, Jq, Jr, Js, Jt, Ju, Jv, Jw, Jy, Jz, Ka, Kb, Kc, Ke, Kf, Kg, Kh, Ki, Kj, Kk, Kl, Km, Kn, Ko, Kq, Kr, Ks, Kt, Ku, Kv, Kw, Kx, Ky, Kz, La, Lb, Lc, Ld, Le, Lf, Lg, Lh, Li, Lj, Ll, Lm, Ln, Lp, and_self, true_and, and_true, Mt, Mu, Mv, Mw, Mx, My, Mz, Na, Nb, Nc, Nd, Nf, Ng, Nh, Int.reduceToNat, Int.reduceLT, Int.reduceEq, Int.reduceLE, List.getElem?_cons_zero, List.getElem?_cons_succ, Lr, Ls, Lt, Ni, Nj, Nk, Nl, gt_iff_lt, ge_iff_le, Lu, Lv, Lw, Lx, Ly, Ma, Nn, Np, Mb, Mc, Md, Me, Mf, Mg, Mh, Mi, Mj, Mk, Nq, Nr, hT, rd178_0, d178_0, hl, i64L_len, h1', decide_true, nextD, h1, true_or, if_true, hset]
  · have h1' : ¬ (t.length : Int) ≤ (a : Int) := by omega
    have h2' : ¬ n < 1 := by omega
    have hx : (i64L t)[a]? = some (.int .i64 (t.getD a 0)) := by simp [i64L, List.getD, show a < t.length by omega]
    have hn0 : ¬ n = 0 := by omega
    have hw : IntKind.i64.wrap ((a : Int) + 1) = ((a + 1 : Nat) : Int) := wrap_i64 (by omega) (by omega)
    have hm1 : (t.getD a 0).tmod n < n := Int.tmod_lt_of_pos _ hn
    have hm2 : -n < (t.getD a 0).tmod n := by
      have := Int.tmod_lt_of_pos (-(t.getD a 0)) hn
      rw [Int.neg_tmod] at this
      omega
    have hw2 : IntKind.i64.wrap ((t.getD a 0).tmod n + n) = (t.getD a 0).tmod n + n := wrap_i64 (by omega) (by omega)
    by_cases h3 : (t.getD a 0).tmod n < 0
    · simp only [Aa, Ab, Ac, Ad, Ae, Af, Ag, Ah, Ai, Aj, Ak, Al, Am, Ao, Ap, Aq, Ar, Au, Av, Aw, Ay, Az, Ba, Bb, Bc, Bd, Be, Bf, Bg, Bh, Bi, Bj, Bk, Bl, Bm, Bn, Bo, Bp, Bq, Br, Bs, Bt, Bv, Bw, Bx, Bz, Ca, Cb, Cc, Cd, Ce, Cf, Cg, Ch, Ci, Cj, Ck, Cl, Cm, Cn, Co, Cp, Cq, Cr, Cs, Ct, Cu, Cv, Cw, Cy, Cz, Da, Db, Dc, De, Df, Dg, Dh, Di, Dj, Dk, Dl, Dm, Dn, Option.map_some, Dp, Dq, Dr, Dt, Du, Dv, Dw, Dx, Dy, Dz, Ea, Eb, Ec, Ed, Ee, Ef, Eg, Eh, Ei, Ej, Ek, El, Em, Eo, Ep, Er, Es, Et, Eu, Ev, Ew, Ey, Ez, Fa, Fb, Fc, Fe, Ff, Fg, Fh, Fj, Fl, Fm, Fp, Fq, Fs, Ft, Fu, Fv, Fw, Fx, Fy, Fz, Ga, Gb, Gc, Gd, Ge, Gf, Gg, Gh, Gi, Gj, Nat.reduceEqDiff, Nat.reduceAdd, Nat.reduceMul, Nat.reduceLT, Nat.reduceLeDiff, ↓reduceIte, Ml, Mm, Nat.reduceBEq, Mn, Mo, Mp, Mq, reduceCtorEq, Mr, Ms, Gk, Gl, Gm, Gn, Gp, Gq, Gr, Gs, Gt, Gu, Gv, Gw, Gx, Gy, Gz, Ha, Hb, Hc, Hd, He, Hf, Hg, Hh, Hj, Hk, Hl, Hm, Hn, Ho, Hq, Hr, Hs, Ht, Hu, Hv, Hw, Hy, Hz, Ia, Ib, Ic, Ie, Ig, Ih, Ii, Ij, Ik, Il, Im, Io, Ip, Iq, Ir, Iu, Iv, Iw, Iy, Iz, Ja, Jb, Jc, Jd, Je, Jf, Jg, Jh, Ji, Jj, Jk, Jl, Jm, Jn, Jo, Jp, Jq, Jr, Js, Jt, Ju, Jv, Jw, Jy, Jz, Ka, Kb, Kc, Ke, Kf, Kg, Kh, Ki, Kj, Kk, Kl, Km, Kn, Ko, Kq, Kr, Ks, Kt, Ku, Kv, Kw, Kx, Ky, Kz, La, Lb, Lc, Ld, Le, Lf, Lg, Lh, Li, Lj, Ll, Lm, Ln, Lp, and_self, true_and, and_true, Mt, Mu, Mv, Mw, Mx, My, Mz, Na, Nb, Nc, Nd, Nf, Ng, Nh, Int.reduceToNat, Int.reduceLT, Int.reduceEq, Int.reduceLE, List.getElem?_cons_zero, List.getElem?_cons_succ, Lr, Ls, Lt, Ni, Nj, Nk, Nl, gt_iff_lt, ge_iff_le, Lu, Lv, Lw, Lx, Ly, Ma, Nn, Np, Mb, Mc, Md, Me, Mf, Mg, Mh, Mi, Mj, Mk, Nq, Nr, hT, rd178_0, rd178_1, d178_0, d178_1, hl, i64L_len, h1', h2', decide_false, nextD, h1, or_self, if_false, hx, binS_rem, hn0, hw, hne, h3, decide_true, hw2, List.set_set, List.getElem?_set_self hlt, if_true]
    · simp only [Aa, Ab, Ac, Ad, Ae, Af, Ag, Ah, Ai, Aj, Ak, Al, Am, Ao, Ap, Aq, Ar, Au, Av, Aw, Ay, Az, Ba, Bb, Bc, Bd, Be, Bf, Bg, Bh, Bi, Bj, Bk, Bl, Bm, Bn, Bo, Bp, Bq, Br, Bs, Bt, Bv, Bw, Bx, Bz, Ca, Cb, Cc, Cd, Ce, Cf, Cg, Ch, Ci, Cj, Ck, Cl, Cm, Cn, Co, Cp, Cq, Cr, Cs, Ct, Cu, Cv, Cw, Cy, Cz, Da, Db, Dc, De, Df, Dg, Dh, Di, Dj, Dk, Dl, Dm, Dn, Option.map_some, Dp, Dq, Dr, Dt, Du, Dv, Dw, Dx, Dy, Dz, Ea, Eb, Ec, Ed, Ee, Ef, Eg, Eh, Ei, Ej, Ek, El, Em, Eo, Ep, Er, Es, Et, Eu, Ev, Ew, Ey, Ez, Fa, Fb, Fc, Fe, Ff, Fg, Fh, Fj, Fl, Fm, Fp, Fq, Fs, Ft, Fu, Fv, Fw, Fx, Fy, Fz, Ga, Gb, Gc, Gd, Ge, Gf, Gg, Gh, Gi, Gj, Nat.reduceEqDiff, Nat.reduceAdd, Nat.reduceMul, Nat.reduceLT, Nat.reduceLeDiff, ↓reduceIte, Ml, Mm, Nat.reduceBEq, Mn, Mo, Mp, Mq, reduceCtorEq, Mr, Ms, Gk, Gl, Gm, Gn, Gp, Gq, Gr, Gs, Gt, Gu, Gv, Gw, Gx, Gy, Gz, Ha, Hb, Hc, Hd, He, Hf, Hg, Hh, Hj, Hk, Hl, Hm, Hn, Ho, Hq, Hr, Hs, Ht, Hu, Hv, Hw, Hy, Hz, Ia, Ib, Ic, Ie, Ig, Ih, Ii, Ij, Ik, Il, Im, Io, Ip, Iq, Ir, Iu, Iv, Iw, Iy, Iz, Ja, Jb, Jc, Jd, Je, Jf, Jg, Jh, Ji, Jj, Jk, Jl, Jm, Jn, Jo, Jp, Jq, Jr, Js, Jt, Ju, Jv, Jw, Jy, Jz, Ka, Kb, Kc, Ke, Kf, Kg, Kh, Ki, Kj, Kk, Kl, Km, Kn, Ko, Kq, Kr, Ks, Kt, Ku, Kv, Kw, Kx, Ky, Kz, La, Lb, Lc, Ld, Le, Lf, Lg, Lh, Li, Lj, Ll, Lm, Ln, Lp, and_self, true_and, and_true, Mt, Mu, Mv, Mw, Mx, My, Mz, Na, Nb, Nc, Nd, Nf, Ng, Nh, Int.reduceToNat, Int.reduceLT, Int.reduceEq, Int.reduceLE, List.getElem?_cons_zero, List.getElem?_cons_succ, Lr, Ls, Lt, Ni, Nj, Nk, Nl, gt_iff_lt, ge_iff_le, Lu, Lv, Lw, Lx, Ly, Ma, Nn, Np, Mb, Mc, Md, Me, Mf, Mg, Mh, Mi, Mj, Mk, Nq, Nr, hT, rd178_0, rd178_1, d178_0, d178_1, hl, i64L_len, h1', h2', decide_false, nextD, h1, or_self, if_false, hx, binS_rem, hn0, hw, hne, h3, decide_true, hw2, List.set_set, List.getElem?_set_self hlt, if_true]
end Go.Proofs.Ytkafliflpplpeaa.Sim
namespace Go.Proofs.Ytkafliflpplpeaa.Sim
set_option linter.unusedSimpArgs false
set_option linter.unusedVariables false
open Go
set_option maxRecDepth 100000
set_option linter.unusedSimpArgs false

theorem hd_ptr (l v o n) : stepK.S.handable (.ptr l v o n) = true := rfl
theorem hd_int (k n) : stepK.S.handable (.int k n) = true := rfl
theorem hd_list (f p xs) : stepK.S.handable (.list f p xs) = true := rfl
theorem hd_bool (b) : stepK.S.handable (.bool b) = true := rfl
theorem growS_one (b b' : Blk) (acc : List S) : growS [b] acc = growS [b'] acc := by cases acc <;> rfl
theorem growH_set0 (b b' : Blk) (e : Nat) (acc : List S) : (growH [b] e acc).set 0 b' = growH [b'] e acc := by cases acc <;> rfl
theorem growH_get0 (b : Blk) (e : Nat) (acc : List S) : (growH [b] e acc)[0]? = some b := by cases acc <;> rfl

def digs (t : List Int) : Nat → Nat → Nat → List Q → List Q × Nat
  | 0, _, a, acc => (acc, a)
  | m + 1, i, a, acc => digs t m (i + 1) (nextD t (nextD t a 1048576).2 3).2 (acc ++ [⟨IntKind.u32.wrap (nextD t a 1048576).1, IntKind.u32.wrap i, IntKind.u32.wrap (nextD t (nextD t a 1048576).2 3).1, 7⟩])

theorem nextD_le (t : List Int) (a : Nat) (n : Int) (h : a ≤ t.length) : (nextD t a n).2 ≤ t.length := by
  unfold nextD
  split
  · exact h
  · rename_i hh; simp only [not_or] at hh; simp only; omega
theorem digs_len (t : List Int) : ∀ (m i a : Nat) (acc : List Q), (digs t m i a acc).1.length = acc.length + m
  | 0, _, _, _ => rfl
  | m + 1, i, a, acc => by rw [digs, digs_len t m]; simp; omega

theorem loop235 {E : Env} (h178 : E 178 = some (.code c178)) (f p : Bool) (t : List Int) (ht : t.length ≤ 1000) (k : Nat) (hk : k ≤ 1000) : ∀ (m i a : Nat) (acc : List Q), k = i + m → a ≤ t.length → acc.length = i →
    blockR 0 [5] (loopR E [0, 1, 5, 6] l235_0 ⟨[(0, .ptr 0 1 0 0), (1, .int .i64 k), (5, growS [dice f p t a] (dS acc)), (6, .int .i64 i)], [], growH [dice f p t a] 4 (dS acc)⟩) =
      some (.norm, ⟨[(5, growS [dice f p t (digs t m i a acc).2] (dS (digs t m i a acc).1))], [], growH [dice f p t (digs t m i a acc).2] 4 (dS (digs t m i a acc).1)⟩) := by
  intro m
  induction m with
  | zero =>
    intro i a acc hi ha hacc
    have h1 : ¬ (i : Int) < (k : Int) := by omega
    rw [loopR]
    conv => lhs; arg 3; arg 1; rw [l235_0]
    simp only [Aa, Ab, Ac, Ad, Ae, Af, Ag, Ah, Ai, Aj, Ak, Al, Am, Ao, Ap, Aq, Ar, Au, Av, Aw, Ay, Az, Ba, Bb, Bc, Bd, Be, Bf, Bg, Bh, Bi, Bj, Bk, Bl, Bm, Bn, Bo, Bp, Bq, Br, Bs, Bt, Bv, Bw, Bx, Bz, Ca, Cb, Cc, Cd, Ce, Cf, Cg, Ch, Ci, Cj, Ck, Cl, Cm, Cn, Co, Cp, Cq, Cr, Cs, Ct, Cu, Cv, Cw, Cy, Cz, Da, Db, Dc, De, Df, Dg, Dh, Di, Dj, Dk, Dl, Dm, Dn, Option.map_some, Dp, Dq, Dr, Dt, Du, Dv, Dw, Dx, Dy, Dz, Ea, Eb, Ec, Ed, Ee, Ef, Eg, Eh, Ei, Ej, Ek, El, Em, Eo, Ep, Er, Es, Et, Eu, Ev, Ew, Ey, Ez, Fa, Fb, Fc, Fe, Ff, Fg, Fh, Fj, Fl, Fm, Fp, Fq, Fs, Ft, Fu, Fv, Fw, Fx, Fy, Fz, Ga, Gb, Gc, Gd, Ge, Gf, Gg, Gh, Gi, Gj, Nat.reduceEqDiff, Nat.reduceAdd, Nat.reduceMul, Nat.reduceLT, Nat.reduceLeDiff, ↓reduceIte, Ml, Mm, Nat.reduceBEq, Mn, Mo, Mp, Mq, reduceCtorEq, Mr, Ms, Gk, Gl, Gm, Gn, Gp, Gq, Gr, Gs, Gt, Gu, Gv, Gw, Gx, Gy, Gz, Ha, Hb, Hc, Hd, He, Hf, Hg, Hh, Hj, Hk, Hl, Hm, Hn, Ho, Hq, Hr, Hs, Ht, Hu, Hv, Hw, Hy, Hz, Ia, Ib, Ic, Ie, Ig, Ih, Ii, Ij, Ik, Il, Im, Io, Ip, Iq, Ir, Iu, Iv, Iw, Iy, Iz, Ja, Jb, Jc, Jd, Je, Jf, Jg, Jh, Ji, Jj, Jk, Jl, Jm, Jn, Jo, Jp, Jq, Jr, Js, Jt, Ju, Jv, Jw, Jy, Jz, Ka, Kb, Kc, Ke, Kf, Kg, Kh, Ki, Kj, Kk, Kl, Km, Kn, Ko, Kq, Kr, Ks, Kt, Ku, Kv, Kw, Kx, Ky, Kz, La, Lb, Lc, Ld, Le, Lf, Lg, Lh, Li, Lj, Ll, Lm, Ln, Lp, and_self, true_and, and_true, Mt, Mu, Mv, Mw, Mx, My, Mz, Na, Nb, Nc, Nd, Nf, Ng, Nh, Int.reduceToNat, Int.reduceLT, Int.reduceEq, Int.reduceLE, List.getElem?_cons_zero, List.getElem?_cons_succ, Lr, Ls, Lt, Ni, Nj, Nk, Nl, gt_iff_lt, ge_iff_le, Lu, Lv, Lw, Lx, Ly, Ma, Nn, Np, Mb, Mc, Md, Me, Mf, Mg, Mh, Mi, Mj, Mk, Nq, Nr, keep1_grow, h1, decide_false, digs]
  | succ m ih =>
    intro i a acc hi ha hacc
    have h1 : (i : Int) < (k : Int) := by omega
    have hw : IntKind.i64.wrap ((i : Int) + 1) = ((i + 1 : Nat) : Int) := wrap_i64 (by omega) (by omega)
    have htr : ∀ (a : Nat) (acc : List S), trim (growH [dice f p t a] 4 acc) = growH [dice f p t a] 4 acc := fun a acc => trim_grow _ _ _ rfl
    have n1 := c_next h178 f p t ht a ha 1048576 (by decide) (by decide) (growH [dice f p t a] 4 (dS acc)) (htr _ _) 0 (growH_get0 _ _ _)
    rw [growH_set0] at n1
    have ha2 := nextD_le t a 1048576 ha
    have n2 := c_next h178 f p t ht _ ha2 3 (by decide) (by decide) (growH [dice f p t (nextD t a 1048576).2] 4 (dS acc)) (htr _ _) 0 (growH_get0 _ _ _)
    rw [growH_set0] at n2
    have ih' := ih (i + 1) (nextD t (nextD t a 1048576).2 3).2 (acc ++ [⟨IntKind.u32.wrap (nextD t a 1048576).1, IntKind.u32.wrap i, IntKind.u32.wrap (nextD t (nextD t a 1048576).2 3).1, 7⟩]) (by omega) (nextD_le _ _ _ ha2) (by simp [hacc])
    have hap := fun (d : Nat) (os : List KO) (fr : Fr) (vars : Vars) => app_grow (E := E) (C := Call E) (d := d) (os := os) (fr := fr) (vars := vars) (H := [dice f p t (nextD t (nextD t a 1048576).2 3).2]) (esz := 4) (bytes := 16) (acc := dS acc) (f := true) (p := true)
      (ys := [.agg [.int .u32 (IntKind.u32.wrap (nextD t a 1048576).1), .int .u32 (IntKind.u32.wrap i), .int .u32 (IntKind.u32.wrap (nextD t (nextD t a 1048576).2 3).1), .int .u32 7]]) (dS_esz acc) rfl (by simp [okLen, dS_len]; omega) (by simp)
    have hd : dS (acc ++ [⟨IntKind.u32.wrap (nextD t a 1048576).1, IntKind.u32.wrap i, IntKind.u32.wrap (nextD t (nextD t a 1048576).2 3).1, 7⟩]) = dS acc ++ [.agg [.int .u32 (IntKind.u32.wrap (nextD t a 1048576).1), .int .u32 (IntKind.u32.wrap i), .int .u32 (IntKind.u32.wrap (nextD t (nextD t a 1048576).2 3).1), .int .u32 7]] := by rw [dS_app]; rfl
    rw [digs]
    rw [hd] at ih'
    rw [growS_one (dice f p t a) (dice f p t (nextD t (nextD t a 1048576).2 3).2)]
    rw [loopR]
    conv => lhs; arg 3; arg 1; rw [l235_0]
    simp only [Aa, Ab, Ac, Ad, Ae, Af, Ag, Ah, Ai, Aj, Ak, Al, Am, Ao, Ap, Aq, Ar, Au, Av, Aw, Ay, Az, Ba, Bb, Bc, Bd, Be, Bf, Bg, Bh, Bi, Bj, Bk, Bl, Bm, Bn, Bo, Bp, Bq, Br, Bs, Bt, Bv, Bw, Bx, Bz, Ca, Cb, Cc, Cd, Ce, Cf, Cg, Ch, Ci, Cj, Ck, Cl, Cm, Cn, Co, Cp, Cq, Cr, Cs, Ct, Cu, Cv, Cw, Cy, Cz, Da, Db, Dc, De, Df, Dg, Dh, Di, Dj, Dk, Dl, Dm, Dn, Option.map_some, Dp, Dq, Dr, Dt, Du, Dv, Dw, Dx, Dy, Dz, Ea, Eb, Ec, Ed, Ee, Ef, Eg, Eh, Ei, Ej, Ek, El, Em, Eo, Ep, Er, Es, Et, Eu, Ev, Ew, Ey, Ez, Fa, Fb, Fc, Fe, Ff, Fg, Fh, Fj, Fl, Fm, Fp, Fq, Fs, Ft, Fu, Fv, Fw, Fx, Fy, Fz, Ga, Gb, Gc, Gd, Ge, Gf, Gg, Gh, Gi, Gj, Nat.reduceEqDiff, Nat.reduceAdd, Nat.reduceMul, Nat.reduceLT, Nat.reduceLeDiff, ↓reduceIte, Ml, Mm, Nat.reduceBEq, Mn, Mo, Mp, Mq, reduceCtorEq, Mr, Ms, Gk, Gl, Gm, Gn, Gp, Gq, Gr, Gs, Gt, Gu, Gv, Gw, Gx, Gy, Gz, Ha, Hb, Hc, Hd, He, Hf, Hg, Hh, Hj, Hk, Hl, Hm, Hn, Ho, Hq, Hr, Hs, Ht, Hu, Hv, Hw, Hy, Hz, Ia, Ib, Ic, Ie, Ig, Ih, Ii, Ij, Ik, Il, Im, Io, Ip, Iq, Ir, Iu, Iv, Iw, Iy, Iz, Ja, Jb, Jc, Jd, Je, Jf, Jg, Jh, Ji, Jj, Jk, Jl, Jm, Jn, Jo, Jp, Jq, Jr, Js, Jt, Ju, Jv, Jw, Jy, Jz, Ka, Kb, Kc, Ke, Kf, Kg, Kh, Ki, Kj, Kk, Kl, Km, Kn, Ko, Kq, Kr, Ks, Kt, Ku, Kv, Kw, Kx, Ky, Kz, La, Lb, Lc, Ld, Le, Lf, Lg, Lh, Li, Lj, Ll, Lm, Ln, Lp, and_self, true_and, and_true, Mt, Mu, Mv, Mw, Mx, My, Mz, Na, Nb, Nc, Nd, Nf, Ng, Nh, Int.reduceToNat, Int.reduceLT, Int.reduceEq, Int.reduceLE, List.getElem?_cons_zero, List.getElem?_cons_succ, Lr, Ls, Lt, Ni, Nj, Nk, Nl, gt_iff_lt, ge_iff_le, Lu, Lv, Lw, Lx, Ly, Ma, Nn, Np, Mb, Mc, Md, Me, Mf, Mg, Mh, Mi, Mj, Mk, Nq, Nr, keep1_grow, h1, decide_true, op_call_in _ _ h178 rfl, hd_ptr, hd_int, n1, n2, hap, hw]
    exact ih'

theorem c_digests {E : Env} (h178 : E 178 = some (.code c178)) (h235 : E 235 = some (.code c235)) (f p : Bool) (t : List Int) (ht : t.length ≤ 1000) (k : Nat) (hk : k ≤ 1000) :
    Call E 235 [.ptr 0 1 0 0, .int .i64 k] [dice f p t 0] = some (growS [dice f p t (digs t k 0 0 []).2] (dS (digs t k 0 0 []).1), growH [dice f p t (digs t k 0 0 []).2] 4 (dS (digs t k 0 0 []).1)) := by
  rw [Call_mk E h235 _ _ rfl]
  have hl := loop235 (E := E) h178 f p t ht k hk k 0 0 [] (by omega) (by omega) rfl
  simp only [dS_nil, growS_nil, growH_nil, Int.cast_ofNat_Int] at hl
  simp only [Aa, Ab, Ac, Ad, Ae, Af, Ag, Ah, Ai, Aj, Ak, Al, Am, Ao, Ap, Aq, Ar, Au, Av, Aw, Ay, Az, Ba, Bb, Bc, Bd, Be, Bf, Bg, Bh, Bi, Bj, Bk, Bl, Bm, Bn, Bo, Bp, Bq, Br, Bs, Bt, Bv, Bw, Bx, Bz, Ca, Cb, Cc, Cd, Ce, Cf, Cg, Ch, Ci, Cj, Ck, Cl, Cm, Cn, Co, Cp, Cq, Cr, Cs, Ct, Cu, Cv, Cw, Cy, Cz, Da, Db, Dc, De, Df, Dg, Dh, Di, Dj, Dk, Dl, Dm, Dn, Option.map_some, Dp, Dq, Dr, Dt, Du, Dv, Dw, Dx, Dy, Dz, Ea, Eb, Ec, Ed, Ee, Ef, Eg, Eh, Ei, Ej, Ek, El, Em, Eo, Ep, Er, Es, Et, Eu, Ev, Ew, Ey, Ez, Fa, Fb, Fc, Fe, Ff, Fg, Fh, Fj, Fl, Fm, Fp, Fq, Fs, Ft, Fu, Fv, Fw, Fx, Fy, Fz, Ga, Gb, Gc, Gd, Ge, Gf, Gg, Gh, Gi, Gj, Nat.reduceEqDiff, Nat.reduceAdd, Nat.reduceMul, Nat.reduceLT, Nat.reduceLeDiff, ↓reduceIte, Ml, Mm, Nat.reduceBEq, Mn, Mo, Mp, Mq, reduceCtorEq, Mr, Ms, Gk, Gl, Gm, Gn, Gp, Gq, Gr, Gs, Gt, Gu, Gv, Gw, Gx, Gy, Gz, Ha, Hb, Hc, Hd, He, Hf, Hg, Hh, Hj, Hk, Hl, Hm, Hn, Ho, Hq, Hr, Hs, Ht, Hu, Hv, Hw, Hy, Hz, Ia, Ib, Ic, Ie, Ig, Ih, Ii, Ij, Ik, Il, Im, Io, Ip, Iq, Ir, Iu, Iv, Iw, Iy, Iz, Ja, Jb, Jc, Jd, Je, Jf, Jg, Jh, Ji, Jj, Jk, Jl, Jm, Jn, Jo, Jp, Jq, Jr, Js, Jt, Ju, Jv, Jw, Jy, Jz, Ka, Kb, Kc, Ke, Kf, Kg, Kh, Ki, Kj, Kk, Kl, Km, Kn, Ko, Kq, Kr, Ks, Kt, Ku, Kv, Kw, Kx, Ky, Kz, La, Lb, Lc, Ld, Le, Lf, Lg, Lh, Li, Lj, Ll, Lm, Ln, Lp, and_self, true_and, and_true, Mt, Mu, Mv, Mw, Mx, My, Mz, Na, Nb, Nc, Nd, Nf, Ng, Nh, Int.reduceToNat, Int.reduceLT, Int.reduceEq, Int.reduceLE, List.getElem?_cons_zero, List.getElem?_cons_succ, Lr, Ls, Lt, Ni, Nj, Nk, Nl, gt_iff_lt, ge_iff_le, Lu, Lv, Lw, Lx, Ly, Ma, Nn, Np, Mb, Mc, Md, Me, Mf, Mg, Mh, Mi, Mj, Mk, Nq, Nr]
  rw [hl]
  simp only [Aa, Ab, Ac, Ad, Ae, Af, Ag, Ah, Ai, Aj, Ak, Al, Am, Ao, Ap, Aq, Ar, Au, Av, Aw, Ay, Az, Ba, Bb, Bc, Bd, Be, Bf, Bg, Bh, Bi, Bj, Bk, Bl, Bm, Bn, Bo, Bp, Bq, Br, Bs, Bt, Bv, Bw, Bx, Bz, Ca, Cb, Cc, Cd, Ce, Cf, Cg, Ch, Ci, Cj, Ck, Cl, Cm, Cn, Co, Cp, Cq, Cr, Cs, Ct, Cu, Cv, Cw, Cy, Cz, Da, Db, Dc, De, Df, Dg, Dh, Di, Dj, Dk, Dl, Dm, Dn, Option.map_some, Dp, Dq, Dr, Dt, Du, Dv, Dw, Dx, Dy, Dz, Ea, Eb, Ec, Ed, Ee, Ef, Eg, Eh, Ei, Ej, Ek, El, Em, Eo, Ep, Er, Es, Et, Eu, Ev, Ew, Ey, Ez, Fa, Fb, Fc, Fe, Ff, Fg, Fh, Fj, Fl, Fm, Fp, Fq, Fs, Ft, Fu, Fv, Fw, Fx, Fy, Fz, Ga, Gb, Gc, Gd, Ge, Gf, Gg, Gh, Gi, Gj, Nat.reduceEqDiff, Nat.reduceAdd, Nat.reduceMul, Nat.reduceLT, Nat.reduceLeDiff, ↓reduceIte, Ml, Mm, Nat.reduceBEq, Mn, Mo, Mp, Mq, reduceCtorEq, Mr, Ms, Gk, Gl, Gm, Gn, Gp, Gq, Gr, Gs, Gt, Gu, Gv, Gw, Gx, Gy, Gz, Ha, Hb, Hc, Hd, He, Hf, Hg, Hh, Hj, Hk, Hl, Hm, Hn, Ho, Hq, Hr, Hs, Ht, Hu, Hv, Hw, Hy, Hz, Ia, Ib, Ic, Ie, Ig, Ih, Ii, Ij, Ik, Il, Im, Io, Ip, Iq, Ir, Iu, Iv, Iw, Iy, Iz, Ja, Jb, Jc, Jd, Je, Jf, Jg, Jh, Ji, Jj, Jk, Jl, Jm, Jn, Jo, Jp, Jq, Jr, Js, Jt, Ju, Jv, Jw, Jy, Jz, Ka, Kb, Kc, Ke, Kf, Kg, Kh, Ki, Kj, Kk, Kl, Km, Kn, Ko, Kq, Kr, Ks, Kt, Ku, Kv, Kw, Kx, Ky, Kz, La, Lb, Lc, Ld, Le, Lf, Lg, Lh, Li, Lj, Ll, Lm, Ln, Lp, and_self, true_and, and_true, Mt, Mu, Mv, Mw, Mx, My, Mz, Na, Nb, Nc, Nd, Nf, Ng, Nh, Int.reduceToNat, Int.reduceLT, Int.reduceEq, Int.reduceLE, List.getElem?_cons_zero, List.getElem?_cons_succ, Lr, Ls, Lt, Ni, Nj, Nk, Nl, gt_iff_lt, ge_iff_le, Lu, Lv, Lw, Lx, Ly, Ma, Nn, Np, Mb, Mc, Md, Me, Mf, Mg, Mh, Mi, Mj, Mk, Nq, Nr, outable_grow]
end Go.Proofs.Ytkafliflpplpeaa.Sim
namespace Go.Proofs.Ytkafliflpplpeaa.Sim
set_option linter.unusedSimpArgs false
set_option linter.unusedVariables false
open Go
set_option maxRecDepth 100000
set_option linter.unusedSimpArgs false

structure HasL (E : Env) : Prop extends HasT E where
  e166 : E 166 = some (.code c166)
  e168 : E 168 = some (.code c168)
  e178 : E 178 = some (.code c178)
  e234 : E 234 = some (.code c234)
  e235 : E 235 = some (.code c235)
  e236 : E 236 = some (.code c236)
  e237 : E 237 = some (.code c237)
  e240 : E 240 = some (.code c240)
  e249 : E 249 = some (.code c249)
  e250 : E 250 = some (.code c250)
  sane : ∀ hp, deepE E (Call E) 234 [] hp = some (.bool true)

/-- A deep call sees its arguments as they are now. -/
theorem deep_arg {E : Env} {f : Nat} {c : CFun} (hE : E f = some (.code c)) (hd : c.deep = true) {as as' : List S} {hp hp' : Hp} (h : mapO (snapA hp) as = mapO (snapA hp') as') : deepE E (Call E) f as hp = deepE E (Call E) f as' hp' := by
  rw [deep_code hE hd, deep_code hE hd, deep_go, deep_go, h]

theorem dep_small : ∀ k ≤ 40, ∀ i < k, dep k k i ≤ 6 := by decide +kernel

theorem eqv_both (x y : Q) : ∃ b, eqvS true true [.i, .i, .i, .i] (.agg [.int .u32 x.a, .int .u32 x.b, .int .u32 x.c, .int .u32 x.d]) (.agg [.int .u32 y.a, .int .u32 y.b, .int .u32 y.c, .int .u32 y.d]) = some (.bool (!b)) ∧
    eqvS false true [.i, .i, .i, .i] (.agg [.int .u32 x.a, .int .u32 x.b, .int .u32 x.c, .int .u32 x.d]) (.agg [.int .u32 y.a, .int .u32 y.b, .int .u32 y.c, .int .u32 y.d]) = some (.bool b) := by
  refine ⟨(x.a == y.a) && ((x.b == y.b) && ((x.c == y.c) && ((x.d == y.d) && true))), ?_, ?_⟩ <;> simp [eqvS, eqV, eqK, eqSc]
theorem eqv_refl (x : Q) : eqvS true true [.i, .i, .i, .i] (.agg [.int .u32 x.a, .int .u32 x.b, .int .u32 x.c, .int .u32 x.d]) (.agg [.int .u32 x.a, .int .u32 x.b, .int .u32 x.c, .int .u32 x.d]) = some (.bool false) := by
  simp [eqvS, eqV, eqK, eqSc]

theorem snapA_own1 (b : Blk) (l : List Q) (n : Nat) (hn : n = l.length) : snapA [b, .rows true 4 (dS l)] (.own 1 n 0 n) = some (.list false false (dS l)) := snapA_last rfl (by rw [hn, dS_len]) (dS_atom l)

theorem c_paths {E : Env} (T : HasL E) (h231 : E 231 = some (.code c231)) (f p : Bool) (t : List Int) (n idx : Nat) (hn : n < 256) (hidx : idx < 256) :
    ∃ hp, Call E 231 [.list f p (i64L t), .int .u8 n, .int .u8 idx] [] = some (.bool true, hp) := by
  have hsane := T.sane
  have hlight := fun hp => d_light T.e166 f p t hp
  rw [Call_mk E h231 _ _ rfl]
  by_cases hbig : (t.length : Int) ≤ 600
  · have hkn : 1 + n % 40 ≤ 40 := by omega
    obtain ⟨k, hk⟩ : ∃ k, k = 1 + n % 40 := ⟨_, rfl⟩
    obtain ⟨i, hi⟩ : ∃ i, i = idx % k := ⟨_, rfl⟩
    have hik : i < k := by rw [hi]; exact Nat.mod_lt _ (by omega)
    have r1 : (n : Int).tmod 40 = ((n % 40 : Nat) : Int) := rfl
    have w1 : IntKind.i64.wrap ((n % 40 : Nat) : Int) = ((n % 40 : Nat) : Int) := wrap_i64 (by omega) (by omega)
    have w2 : IntKind.i64.wrap (1 + ((n % 40 : Nat) : Int)) = (k : Int) := by
      rw [show 1 + ((n % 40 : Nat) : Int) = (k : Int) by omega]; exact wrap_i64 (by omega) (by omega)
    have w3 : IntKind.i64.wrap (idx : Int) = idx := wrap_i64 (by omega) (by omega)
    have r2 : (idx : Int).tmod (k : Int) = (i : Int) := by rw [hi]; rfl
    have hk0 : ¬ (k : Int) = 0 := by omega
    have hroll := c_roll T.e168 f p t []
    have hdig := c_digests T.e178 T.e235 f p t (by omega) k (by omega)
    generalize hds : (digs t k 0 0 []).1 = ds at hdig
    generalize (digs t k 0 0 []).2 = a' at hdig
    have hlen : ds.length = k := by rw [← hds, digs_len]; simp
    have hne : dS ds ≠ [] := by intro h; have h0 : (dS ds).length = 0 := (by rw [h]; rfl); rw [dS_len] at h0; omega
    rw [growS_ne hne, growH_ne hne, dS_len, hlen] at hdig
    simp only [List.length_cons, List.length_nil, Nat.zero_add, List.cons_append, List.nil_append] at hdig hroll
    have hx : ds[i]? = some ds[i] := List.getElem?_eq_getElem (by omega)
    generalize ds[i] = x at hx
    have hsn := fun b => snapA_own1 b ds k hlen.symm
    obtain ⟨ff, hpath⟩ := d_path236 T.toHasT T.e236 false false ds i (by omega) (by omega)
    have hpath' : deepE E (Call E) 236 [.own 1 k 0 k, .int .i64 i] [dice f p t a', .rows true 4 (dS ds)] = _ := (deep_arg T.e236 rfl (hp' := []) (as' := [.list false false (dS ds), .int .i64 i]) (by simp only [mapO_cons, hsn, mapO_nil, snapA_int, snapA_list])).trans (hpath [])
    rw [hlen] at hpath'
    have hP := pathQ_dep k ds i (by omega) (by omega)
    rw [hlen] at hP
    have hlead := leadQ_pathQ k ds i x (by omega) hx
    rw [hlen] at hlead
    generalize pathQ k ds i = P at hpath' hP hlead
    have hleaf := fun q hp => d_leaf238 T.toHasW T.e238 q hp
    have hleafr := fun q hp => d_leaf241 T.toHasW T.e241 q hp
    have hL := fun q hp => d_Lead237 T.toHasT T.e249 T.e237 q i k ff true P hp (by omega) hik hP
    have hLr := fun q hp => d_Lead240 T.toHasT T.e250 T.e240 q i k ff true P hp (by omega) hik hP
    have hroot : deepE E (Call E) 239 [.own 1 k 0 k] [dice f p t a', .rows true 4 (dS ds)] = some (rt ds).s := (deep_arg T.e239 rfl (hp' := []) (as' := [.list false false (dS ds)]) (by simp only [mapO_cons, hsn, mapO_nil, snapA_list])).trans (d_rt239 T.toHasW T.e238 T.e243 T.e239 false false ds [] (by omega))
    have hrootr : deepE E (Call E) 242 [.own 1 k 0 k] [dice f p t a', .rows true 4 (dS ds)] = some (rt ds).s := (deep_arg T.e242 rfl (hp' := []) (as' := [.list false false (dS ds)]) (by simp only [mapO_cons, hsn, mapO_nil, snapA_list])).trans (d_rt242 T.toHasW T.e241 T.e251 T.e242 false false ds [] (by omega))
    have hget : (dS ds)[i]? = some (.agg [.int .u32 x.a, .int .u32 x.b, .int .u32 x.c, .int .u32 x.d]) := dS_get hx
    have hlt : (i : Int) < (k : Int) := by omega
    have h6 : ¬ (6 : Int) < (P.length : Int) := by have := dep_small k (by omega) i hik; omega
    have hxy := fun q => eqv_both q (rt ds)
    have hself := eqv_refl (rt ds)
    obtain ⟨b, hb1, hb2⟩ := hxy (leadQ k (leafQ ⟨IntKind.u32.wrap (x.a + 1), x.b, x.c, x.d⟩) i k P)
    have hl1 := fun hp => hleaf x hp
    have hl2 := fun hp => hleaf ⟨IntKind.u32.wrap (x.a + 1), x.b, x.c, x.d⟩ hp
    have hl3 := fun hp => hleafr ⟨IntKind.u32.wrap (x.a + 1), x.b, x.c, x.d⟩ hp
    have hL1 := fun hp => hL (leafQ x) hp
    rw [hlead] at hL1
    have hL2 := fun hp => hL (leafQ ⟨IntKind.u32.wrap (x.a + 1), x.b, x.c, x.d⟩) hp
    have hL3 := fun hp => hLr (leafQ ⟨IntKind.u32.wrap (x.a + 1), x.b, x.c, x.d⟩) hp
    have hkl : k = (dS ds).length := by rw [dS_len, hlen]
    have ht1 : trim [dice f p t a', .rows true 4 (dS ds)] = [dice f p t a', .rows true 4 (dS ds)] := rfl
    simp only [Q.s] at hl1 hl2 hl3 hL1 hL2 hL3 hroot hrootr
    refine ⟨[dice f p t a', .rows true 4 (dS ds)], ?_⟩
    cases b <;>
    simp only [Aa, Ab, Ac, Ad, Ae, Af, Ag, Ah, Ai, Aj, Ak, Al, Am, Ao, Ap, Aq, Ar, Au, Av, Aw, Ay, Az, Ba, Bb, Bc, Bd, Be, Bf, Bg, Bh, Bi, Bj, Bk, Bl, Bm, Bn, Bo, Bp, Bq, Br, Bs, Bt, Bv, Bw, Bx, Bz, Ca, Cb, Cc, Cd, Ce, Cf, Cg, Ch, Ci, Cj, Ck, Cl, Cm, Cn, Co, Cp, Cq, Cr, Cs, Ct, Cu, Cv, Cw, Cy, Cz, Da, Db, Dc, De, Df, Dg, Dh, Di, Dj, Dk, Dl, Dm, Dn, Option.map_some, Dp, Dq, Dr, Dt, Du, Dv, Dw, Dx, Dy, Dz, Ea, Eb, Ec, Ed, Ee, Ef, Eg, Eh, Ei, Ej, Ek, El, Em, Eo, Ep, Er, Es, Et, Eu, Ev, Ew, Ey, Ez, Fa, Fb, Fc, Fe, Ff, Fg, Fh, Fj, Fl, Fm, Fp, Fq, Fs, Ft, Fu, Fv, Fw, Fx, Fy, Fz, Ga, Gb, Gc, Gd, Ge, Gf, Gg, Gh, Gi, Gj, Nat.reduceEqDiff, Nat.reduceAdd, Nat.reduceMul, Nat.reduceLT, Nat.reduceLeDiff, ↓reduceIte, Ml, Mm, Nat.reduceBEq, Mn, Mo, Mp, Mq, reduceCtorEq, Mr, Ms, Gk, Gl, Gm, Gn, Gp, Gq, Gr, Gs, Gt, Gu, Gv, Gw, Gx, Gy, Gz, Ha, Hb, Hc, Hd, He, Hf, Hg, Hh, Hj, Hk, Hl, Hm, Hn, Ho, Hq, Hr, Hs, Ht, Hu, Hv, Hw, Hy, Hz, Ia, Ib, Ic, Ie, Ig, Ih, Ii, Ij, Ik, Il, Im, Io, Ip, Iq, Ir, Iu, Iv, Iw, Iy, Iz, Ja, Jb, Jc, Jd, Je, Jf, Jg, Jh, Ji, Jj, Jk, Jl, Jm, Jn, Jo, Jp, Jq, Jr, Js, Jt, Ju, Jv, Jw, Jy, Jz, Ka, Kb, Kc, Ke, Kf, Kg, Kh, Ki, Kj, Kk, Kl, Km, Kn, Ko, Kq, Kr, Ks, Kt, Ku, Kv, Kw, Kx, Ky, Kz, La, Lb, Lc, Ld, Le, Lf, Lg, Lh, Li, Lj, Ll, Lm, Ln, Lp, and_self, true_and, and_true, Mt, Mu, Mv, Mw, Mx, My, Mz, Na, Nb, Nc, Nd, Nf, Ng, Nh, Int.reduceToNat, Int.reduceLT, Int.reduceEq, Int.reduceLE, List.getElem?_cons_zero, List.getElem?_cons_succ, Lr, Ls, Lt, Ni, Nj, Nk, Nl, gt_iff_lt, ge_iff_le, Lu, Lv, Lw, Lx, Ly, Ma, Nn, Np, Mb, Mc, Md, Me, Mf, Mg, Mh, Mi, Mj, Mk, Nq, Nr, hbig, decide_true, Bool.not_true, op_call_deep _ _ T.e166 rfl, hlight, op_call_in _ _ T.e168 rfl, op_call_in _ _ T.e235 rfl, hd_list, hd_ptr, hd_int, hroll, hdig, binS_rem, r1, w1, w2, w3, r2, hk0, op_call_deep _ _ T.e236 rfl, hpath', hlt, hget, ← hkl,
      op_call_deep _ _ T.e238 rfl, hl1, hl2, op_call_deep _ _ T.e237 rfl, hL1, hL2, rd231_0 E (deepB_code T.e239 rfl), d231_0, ne_eq, not_true_eq_false, decide_false, op_call_deep _ _ T.e239 rfl, hroot, hself, dS_len, h6, ht1,
      op_call_deep _ _ T.e241 rfl, hl3, op_call_deep _ _ T.e240 rfl, hL3, rd231_1 E (deepB_code T.e234 rfl) (deepB_code T.e242 rfl), d231_1, hb1, hb2, op_call_deep _ _ T.e242 rfl, hrootr, op_call_deep _ _ T.e234 rfl, hsane, Bool.not_false]
  · refine ⟨[], ?_⟩
    simp only [Aa, Ab, Ac, Ad, Ae, Af, Ag, Ah, Ai, Aj, Ak, Al, Am, Ao, Ap, Aq, Ar, Au, Av, Aw, Ay, Az, Ba, Bb, Bc, Bd, Be, Bf, Bg, Bh, Bi, Bj, Bk, Bl, Bm, Bn, Bo, Bp, Bq, Br, Bs, Bt, Bv, Bw, Bx, Bz, Ca, Cb, Cc, Cd, Ce, Cf, Cg, Ch, Ci, Cj, Ck, Cl, Cm, Cn, Co, Cp, Cq, Cr, Cs, Ct, Cu, Cv, Cw, Cy, Cz, Da, Db, Dc, De, Df, Dg, Dh, Di, Dj, Dk, Dl, Dm, Dn, Option.map_some, Dp, Dq, Dr, Dt, Du, Dv, Dw, Dx, Dy, Dz, Ea, Eb, Ec, Ed, Ee, Ef, Eg, Eh, Ei, Ej, Ek, El, Em, Eo, Ep, Er, Es, Et, Eu, Ev, Ew, Ey, Ez, Fa, Fb, Fc, Fe, Ff, Fg, Fh, Fj, Fl, Fm, Fp, Fq, Fs, Ft, Fu, Fv, Fw, Fx, Fy, Fz, Ga, Gb, Gc, Gd, Ge, Gf, Gg, Gh, Gi, Gj, Nat.reduceEqDiff, Nat.reduceAdd, Nat.reduceMul, Nat.reduceLT, Nat.reduceLeDiff, ↓reduceIte, Ml, Mm, Nat.reduceBEq, Mn, Mo, Mp, Mq, reduceCtorEq, Mr, Ms, Gk, Gl, Gm, Gn, Gp, Gq, Gr, Gs, Gt, Gu, Gv, Gw, Gx, Gy, Gz, Ha, Hb, Hc, Hd, He, Hf, Hg, Hh, Hj, Hk, Hl, Hm, Hn, Ho, Hq, Hr, Hs, Ht, Hu, Hv, Hw, Hy, Hz, Ia, Ib, Ic, Ie, Ig, Ih, Ii, Ij, Ik, Il, Im, Io, Ip, Iq, Ir, Iu, Iv, Iw, Iy, Iz, Ja, Jb, Jc, Jd, Je, Jf, Jg, Jh, Ji, Jj, Jk, Jl, Jm, Jn, Jo, Jp, Jq, Jr, Js, Jt, Ju, Jv, Jw, Jy, Jz, Ka, Kb, Kc, Ke, Kf, Kg, Kh, Ki, Kj, Kk, Kl, Km, Kn, Ko, Kq, Kr, Ks, Kt, Ku, Kv, Kw, Kx, Ky, Kz, La, Lb, Lc, Ld, Le, Lf, Lg, Lh, Li, Lj, Ll, Lm, Ln, Lp, and_self, true_and, and_true, Mt, Mu, Mv, Mw, Mx, My, Mz, Na, Nb, Nc, Nd, Nf, Ng, Nh, Int.reduceToNat, Int.reduceLT, Int.reduceEq, Int.reduceLE, List.getElem?_cons_zero, List.getElem?_cons_succ, Lr, Ls, Lt, Ni, Nj, Nk, Nl, gt_iff_lt, ge_iff_le, Lu, Lv, Lw, Lx, Ly, Ma, Nn, Np, Mb, Mc, Md, Me, Mf, Mg, Mh, Mi, Mj, Mk, Nq, Nr, hbig, decide_false, Bool.not_false, op_call_deep _ _ T.e166 rfl, hlight, op_call_deep _ _ T.e234 rfl, hsane]
end Go.Proofs.Ytkafliflpplpeaa.Sim
namespace Go.Proofs.Ytkafliflpplpeaa.Sim
set_option linter.unusedSimpArgs false
set_option linter.unusedVariables false
open Go
set_option maxRecDepth 100000
set_option linter.unusedSimpArgs false

def intsOf : List S → Option (List Int)
  | [] => some []
  | .int .u32 n :: xs => match intsOf xs with | some l => some (n :: l) | none => none
  | _ :: _ => none
theorem intsOf_eq : ∀ {xs : List S} {l : List Int}, intsOf xs = some l → xs = u32s l
  | [], l, h => by cases h; rfl
  | .int .u32 n :: xs, l, h => by
    rw [intsOf] at h
    split at h
    · rename_i l' h'
      cases h
      rw [intsOf_eq h']; rfl
    · cases h
def pWords : List S → Option S
  | [.int .u32 t, .list _ _ xs] => match intsOf xs with | some l => if l.length ≤ 140737488351232 then some (words t l).s else none | none => none
  | _ => none
theorem pWords_eq {as : List S} {r : S} (h : pWords as = some r) : ∃ t f p l, as = [.int .u32 t, .list f p (u32s l)] ∧ r = (words t l).s ∧ l.length ≤ 140737488351232 := by
  unfold pWords at h
  split at h
  · rename_i t f p xs
    split at h
    · rename_i l hl
      split at h
      · rename_i hle
        cases h
        exact ⟨t, f, p, l, by rw [intsOf_eq hl], rfl, hle⟩
      · cases h
    · cases h
  · cases h
theorem snapR_Q (q : Q) : snapR [] q.s = some q.s := rfl
theorem ownR_Q (q : Q) : ownR [] q.s = none := rfl

def swE (E : Env) : Env := fun f => if f = 14 then some (.prim pWords) else if f = 12 then some (.prim pWords) else E f

theorem sw_words {E : Env} {i : Nat} {c : CFun} (h : E i = some (.code c)) (hd : c.deep = true) (hw : ∀ (t : Int) (f p : Bool) (l : List Int), l.length ≤ 140737488351232 → deepE E (Call E) i [.int .u32 t, .list f p (u32s l)] [] = some (words t l).s) :
    ∃ s, some (Fun.prim pWords) = some (.prim s) ∧ (∃ g, E i = some g ∧ g.isDeep = true) ∧ (∀ as r, s as = some r → ownR [] r = none ∧ ∀ v, snapR [] r = some v → backR (Call E i as []) = some v) := by
  refine ⟨pWords, rfl, ⟨_, h, hd⟩, fun as r hr => ?_⟩
  obtain ⟨t, f, p, l, rfl, rfl, hl⟩ := pWords_eq hr
  refine ⟨ownR_Q _, fun v hv => ?_⟩
  rw [snapR_Q] at hv
  cases hv
  have := hw t f p l hl
  rw [deep_code h hd, deep_go] at this
  simpa only [mapO_nil, mapO_cons, consO_some, snapA_int, snapA_list, goD_some] using this

theorem swap_words {E : Env} (W : HasW E) : Swap E (swE E) := by
  refine ⟨fun f => ?_⟩
  by_cases h14 : f = 14
  · subst h14; exact .inr (sw_words W.e14 rfl (fun t f p l hl => d_words14 W.e25 W.e9 W.e14 t f p l hl []))
  by_cases h12 : f = 12
  · subst h12; exact .inr (sw_words W.e12 rfl (fun t f p l hl => d_words12 W.e26 W.e13 W.e12 t f p l hl []))
  · exact .inl (by rw [swE, if_neg h14, if_neg h12])

theorem sane234 {E : Env} (W : HasW E) (h : E 234 = some (.code c234)) {n : Nat} (hr : isTrue (callN (swE E) n 234 [] []) = true) (hp : Hp) : deepE E (Call E) 234 [] hp = some (.bool true) :=
  closed_swap (swap_words W) h rfl rfl hr hp
end Go.Proofs.Ytkafliflpplpeaa.Sim
