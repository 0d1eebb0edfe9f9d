/- Go functions of the program as plain Lean functions with a number of rounds, and that the calls come to exactly their answers. Conditions: those in each theorem. Written by a program of this project (wip/tools/xprint.py). -/
import Derived.Test.YtijmmnlhbbmhlaaXEx0
import Derived.Test.YtijmmnlhbbmhlaaXEx1
import Derived.Test.YtijmmnlhbbmhlaaXEx2
import Derived.Test.YtijmmnlhbbmhlaaXEx3
import Derived.Test.YtijmmnlhbbmhlaaXEx4
import Derived.Test.YtijmmnlhbbmhlaaXEx5
import Derived.Test.YtijmmnlhbbmhlaaXEx6
namespace Go.Proofs.Ytijmmnlhbbmhlaa.XE
open Go.RowKit Go.Proofs.Ytijmmnlhbbmhlaa.Ix Go.Proofs.YtijmmnlhbbmhlaaW.PrintWords Go.Proofs.YtijmmnlhbbmhlaaW.PrintLast Go.Proofs.YtijmmnlhbbmhlaaW.PrintMore
open Bool renaming true → T,false → F
open List renaming setIfInBounds_toArray → Q2,set_cons_zero → Q0,set_cons_succ → Q1
open Go.Proofs.YtijmmnlhbbmhlaaW.PrintWords.Aside0 renaming mk → AK
open Go.Proofs.YtijmmnlhbbmhlaaW.PrintWords renaming blk_drewN → D1,blk_drew → D2,blk_alloc → D3,below_set → D4,blk_cell → D5,blk_below → D6,pw_below_drewN → D7
attribute [local go_sem] max2_int min2_int max_two min_two max_three min_three max_four min_four   -- for this text's walks alone
set_option linter.unusedVariables false
set_option linter.unusedSimpArgs false

attribute [local go_sem high] eqA26
/-! ### awardingbodylaw41_SignatureExact: function 3 -/
mutual
def awardingbodylaw41_SignatureExact.j0 : Nat → Int → Int → Int → Bool → Int → Int → Int → Int → Int → Int → Int → Int → Option (Bool)
 | 0,_,_,_,_,_,_,_,_,_,_,_,_ => none
 | k + 1,x0,x1,x11,x99,x272000,x272001,x272002,x272003,x273000,x273001,x294000,x294001 => if x99 = true then (some false) else ((awardingbodymark_Mod.f x0 2147483579).bind fun t296 => ((awardingbodymark_Mod.f x1 1099511627776).bind fun t297 => ((awardingbodymark_Mod.f x0 9).bind fun t298 => ((awardingbodymark_Mod.f x1 9).bind fun t299 => (awardingbodylaw41_SignatureExact.l0 k x0 x11 0 x272000 x272001 x272002 x272003 x273000 x273001 x294000 x294001 x0 x1 t296 t297 t298 t299)))))
def awardingbodylaw41_SignatureExact.l0 : Nat → Int → Int → Int → Int → Int → Int → Int → Int → Int → Int → Int → Int → Int → Int → Int → Int → Int → Option (Bool)
 | 0,_,_,_,_,_,_,_,_,_,_,_,_,_,_,_,_,_ => none
 | k + 1,x0,x11,x114,x272000,x272001,x272002,x272003,x273000,x273001,x294000,x294001,x304000,x304001,x304002,x304003,x304004,x304005 => if x114 < 3 then (if 0 ≤ x114 then ((signature_Power.f k (ix3 x114 x304000 x304002 x304004) (ix3 x114 x304001 x304003 x304005)).bind fun t305 => ((awardingbodyref41_Power.f k (ix3 x114 x304000 x304002 x304004) (ix3 x114 x304001 x304003 x304005)).bind fun t306 => (if t305 = t306 then ((signature_Challenge.f k (ix3 x114 x304000 x304002 x304004) (ix3 x114 x304001 x304003 x304005) x272000 x272001 x272002 x272003).bind fun t307 => ((awardingbodyref41_Challenge.f k (ix3 x114 x304000 x304002 x304004) (ix3 x114 x304001 x304003 x304005) x272000 x272001 x272002 x272003).bind fun t308 => (awardingbodylaw41_SignatureExact.j2 k x0 x11 x114 (t307 != t308) x272000 x272001 x272002 x272003 x273000 x273001 x294000 x294001 x304000 x304001 x304002 x304003 x304004 x304005))) else (awardingbodylaw41_SignatureExact.j2 k x0 x11 x114 true x272000 x272001 x272002 x272003 x273000 x273001 x294000 x294001 x304000 x304001 x304002 x304003 x304004 x304005)))) else (none)) else ((awardingbodyref41_Public.f k x11).bind fun bt309 => ((signature_Verify.f k bt309.1 x272000 x272001 x272002 x272003 x273000 x273001).bind fun t311 => ((awardingbodyref41_Verify.f k bt309.1 x272000 x272001 x272002 x272003 x273000 x273001).bind fun t312 => (if (t311 == t312) = true then ((signature_Verify.f k x0 x272000 x272001 x272002 x272003 x273000 x273001).bind fun t313 => ((awardingbodyref41_Verify.f k x0 x272000 x272001 x272002 x272003 x273000 x273001).bind fun t314 => (if (t313 == t314) = true then ((signature_Verify.f k x0 x272000 x272001 x272002 x272003 x294000 x294001).bind fun t315 => ((awardingbodyref41_Verify.f k x0 x272000 x272001 x272002 x272003 x294000 x294001).bind fun t316 => (if (t315 == t316) = true then ((awardingbodylaw41_sane.f k).bind fun t317 => (some t317)) else (some false)))) else (some false)))) else (some false)))))
def awardingbodylaw41_SignatureExact.j2 : Nat → Int → Int → Int → Bool → Int → Int → Int → Int → Int → Int → Int → Int → Int → Int → Int → Int → Int → Int → Option (Bool)
 | 0,_,_,_,_,_,_,_,_,_,_,_,_,_,_,_,_,_,_ => none
 | k + 1,x0,x11,x114,x142,x272000,x272001,x272002,x272003,x273000,x273001,x294000,x294001,x304000,x304001,x304002,x304003,x304004,x304005 => if x142 = true then (some false) else (awardingbodylaw41_SignatureExact.l0 k x0 x11 (wrap64 (x114 + 1)) x272000 x272001 x272002 x272003 x273000 x273001 x294000 x294001 x304000 x304001 x304002 x304003 x304004 x304005)
end
def awardingbodylaw41_SignatureExact.f (k : Nat) (a0 : Int) (a1 : Int) (a2 : Int) (a3_0 : Int) (a3_1 : Int) (a3_2 : Int) (a3_3 : Int) (a4_0 : Int) (a4_1 : Int) : Option (Bool):=(awardingbodymark_Mod.f a2 1073741788).bind fun t273 => ((signature_Public.f k a2).bind fun bt274 => ((awardingbodyref41_Public.f k a2).bind fun bt276 => ((signature_Sign.f k a2 a3_0 a3_1 a3_2 a3_3).bind fun bt278 => ((awardingbodyref41_Sign.f k a2 a3_0 a3_1 a3_2 a3_3).bind fun bt282 => ((signature_Sign.f k (wrap64 (1 + t273)) a3_0 a3_1 a3_2 a3_3).bind fun bt286 => ((awardingbodyref41_Sign.f k (wrap64 (1 + t273)) a3_0 a3_1 a3_2 a3_3).bind fun bt290 => (if bt274.1 = bt276.1 then (if bt274.2 = bt276.2 then (if (!(bt278.1 == bt282.1) || (!(bt278.2.1 == bt282.2.1))) = true then (awardingbodylaw41_SignatureExact.j0 k a0 a1 (wrap64 (1 + t273)) true a3_0 a3_1 a3_2 a3_3 a4_0 a4_1 bt290.1 bt290.2.1) else (if bt278.2.2 = bt282.2.2 then (if (!(bt286.1 == bt290.1) || (!(bt286.2.1 == bt290.2.1))) = true then (awardingbodylaw41_SignatureExact.j0 k a0 a1 (wrap64 (1 + t273)) true a3_0 a3_1 a3_2 a3_3 a4_0 a4_1 bt290.1 bt290.2.1) else (if bt286.2.2 = bt290.2.2 then ((signature_Valid.f a2).bind fun t294 => ((awardingbodyref41_Valid.f a2).bind fun t295 => (awardingbodylaw41_SignatureExact.j0 k a0 a1 (wrap64 (1 + t273)) (t294 != t295) a3_0 a3_1 a3_2 a3_3 a4_0 a4_1 bt290.1 bt290.2.1))) else (awardingbodylaw41_SignatureExact.j0 k a0 a1 (wrap64 (1 + t273)) true a3_0 a3_1 a3_2 a3_3 a4_0 a4_1 bt290.1 bt290.2.1))) else (awardingbodylaw41_SignatureExact.j0 k a0 a1 (wrap64 (1 + t273)) true a3_0 a3_1 a3_2 a3_3 a4_0 a4_1 bt290.1 bt290.2.1))) else (awardingbodylaw41_SignatureExact.j0 k a0 a1 (wrap64 (1 + t273)) true a3_0 a3_1 a3_2 a3_3 a4_0 a4_1 bt290.1 bt290.2.1)) else (awardingbodylaw41_SignatureExact.j0 k a0 a1 (wrap64 (1 + t273)) true a3_0 a3_1 a3_2 a3_3 a4_0 a4_1 bt290.1 bt290.2.1))))))))
theorem awardingbodylaw41_SignatureExact.mono_l : ∀ k,(∀ y0 y1 y2 y3 y4 y5 y6 y7 y8 y9 y10 y11,LeO (awardingbodylaw41_SignatureExact.j0 k y0 y1 y2 y3 y4 y5 y6 y7 y8 y9 y10 y11) (awardingbodylaw41_SignatureExact.j0 (k + 1) y0 y1 y2 y3 y4 y5 y6 y7 y8 y9 y10 y11)) ∧ (∀ y0 y1 y2 y3 y4 y5 y6 y7 y8 y9 y10 y11 y12 y13 y14 y15 y16,LeO (awardingbodylaw41_SignatureExact.l0 k y0 y1 y2 y3 y4 y5 y6 y7 y8 y9 y10 y11 y12 y13 y14 y15 y16) (awardingbodylaw41_SignatureExact.l0 (k + 1) y0 y1 y2 y3 y4 y5 y6 y7 y8 y9 y10 y11 y12 y13 y14 y15 y16)) ∧ (∀ y0 y1 y2 y3 y4 y5 y6 y7 y8 y9 y10 y11 y12 y13 y14 y15 y16 y17,LeO (awardingbodylaw41_SignatureExact.j2 k y0 y1 y2 y3 y4 y5 y6 y7 y8 y9 y10 y11 y12 y13 y14 y15 y16 y17) (awardingbodylaw41_SignatureExact.j2 (k + 1) y0 y1 y2 y3 y4 y5 y6 y7 y8 y9 y10 y11 y12 y13 y14 y15 y16 y17))
 | 0 => ⟨fun _ _ _ _ _ _ _ _ _ _ _ _ r h => by simp [awardingbodylaw41_SignatureExact.j0] at h,fun _ _ _ _ _ _ _ _ _ _ _ _ _ _ _ _ _ r h => by simp [awardingbodylaw41_SignatureExact.l0] at h,fun _ _ _ _ _ _ _ _ _ _ _ _ _ _ _ _ _ _ r h => by simp [awardingbodylaw41_SignatureExact.j2] at h⟩
 | k + 1 => by
  obtain ⟨ih0,ih1,ih2⟩:=awardingbodylaw41_SignatureExact.mono_l k
  refine ⟨?_,?_,?_⟩
  ·intro y0 y1 y2 y3 y4 y5 y6 y7 y8 y9 y10 y11
   unfold awardingbodylaw41_SignatureExact.j0
   repeat' first
   | (with_reducible exact ih0 _ _ _ _ _ _ _ _ _ _ _ _)
   | (with_reducible exact ih1 _ _ _ _ _ _ _ _ _ _ _ _ _ _ _ _ _)
   | (with_reducible exact ih2 _ _ _ _ _ _ _ _ _ _ _ _ _ _ _ _ _ _)
   | (with_reducible exact awardingbodylaw41_sane.mono _)
   | (with_reducible exact awardingbodyref41_Challenge.mono _ _ _ _ _ _ _)
   | (with_reducible exact awardingbodyref41_Power.mono _ _ _)
   | (with_reducible exact awardingbodyref41_Public.mono _ _)
   | (with_reducible exact awardingbodyref41_Sign.mono _ _ _ _ _ _)
   | (with_reducible exact awardingbodyref41_Verify.mono _ _ _ _ _ _ _ _)
   | (with_reducible exact signature_Challenge.mono _ _ _ _ _ _ _)
   | (with_reducible exact signature_Power.mono _ _ _)
   | (with_reducible exact signature_Public.mono _ _)
   | (with_reducible exact signature_Sign.mono _ _ _ _ _ _)
   | (with_reducible exact signature_Verify.mono _ _ _ _ _ _ _ _)
   | (with_reducible exact LeO.refl _)
   | (with_reducible exact LeO.none _)
   | (with_reducible refine LeO.ite ?_ ?_)
   | (with_reducible refine LeO.bind ?_ (fun _ => ?_))
   | exact ih0 _ _ _ _ _ _ _ _ _ _ _ _
   | exact ih1 _ _ _ _ _ _ _ _ _ _ _ _ _ _ _ _ _
   | exact ih2 _ _ _ _ _ _ _ _ _ _ _ _ _ _ _ _ _ _
   | exact awardingbodylaw41_sane.mono _
   | exact awardingbodyref41_Challenge.mono _ _ _ _ _ _ _
   | exact awardingbodyref41_Power.mono _ _ _
   | exact awardingbodyref41_Public.mono _ _
   | exact awardingbodyref41_Sign.mono _ _ _ _ _ _
   | exact awardingbodyref41_Verify.mono _ _ _ _ _ _ _ _
   | exact signature_Challenge.mono _ _ _ _ _ _ _
   | exact signature_Power.mono _ _ _
   | exact signature_Public.mono _ _
   | exact signature_Sign.mono _ _ _ _ _ _
   | exact signature_Verify.mono _ _ _ _ _ _ _ _
   | exact LeO.none _
   | refine LeO.ite ?_ ?_
   | refine LeO.bind ?_ (fun _ => ?_)
  ·intro y0 y1 y2 y3 y4 y5 y6 y7 y8 y9 y10 y11 y12 y13 y14 y15 y16
   unfold awardingbodylaw41_SignatureExact.l0
   repeat' first
   | (with_reducible exact ih0 _ _ _ _ _ _ _ _ _ _ _ _)
   | (with_reducible exact ih1 _ _ _ _ _ _ _ _ _ _ _ _ _ _ _ _ _)
   | (with_reducible exact ih2 _ _ _ _ _ _ _ _ _ _ _ _ _ _ _ _ _ _)
   | (with_reducible exact awardingbodylaw41_sane.mono _)
   | (with_reducible exact awardingbodyref41_Challenge.mono _ _ _ _ _ _ _)
   | (with_reducible exact awardingbodyref41_Power.mono _ _ _)
   | (with_reducible exact awardingbodyref41_Public.mono _ _)
   | (with_reducible exact awardingbodyref41_Sign.mono _ _ _ _ _ _)
   | (with_reducible exact awardingbodyref41_Verify.mono _ _ _ _ _ _ _ _)
   | (with_reducible exact signature_Challenge.mono _ _ _ _ _ _ _)
   | (with_reducible exact signature_Power.mono _ _ _)
   | (with_reducible exact signature_Public.mono _ _)
   | (with_reducible exact signature_Sign.mono _ _ _ _ _ _)
   | (with_reducible exact signature_Verify.mono _ _ _ _ _ _ _ _)
   | (with_reducible exact LeO.refl _)
   | (with_reducible exact LeO.none _)
   | (with_reducible refine LeO.ite ?_ ?_)
   | (with_reducible refine LeO.bind ?_ (fun _ => ?_))
   | exact ih0 _ _ _ _ _ _ _ _ _ _ _ _
   | exact ih1 _ _ _ _ _ _ _ _ _ _ _ _ _ _ _ _ _
   | exact ih2 _ _ _ _ _ _ _ _ _ _ _ _ _ _ _ _ _ _
   | exact awardingbodylaw41_sane.mono _
   | exact awardingbodyref41_Challenge.mono _ _ _ _ _ _ _
   | exact awardingbodyref41_Power.mono _ _ _
   | exact awardingbodyref41_Public.mono _ _
   | exact awardingbodyref41_Sign.mono _ _ _ _ _ _
   | exact awardingbodyref41_Verify.mono _ _ _ _ _ _ _ _
   | exact signature_Challenge.mono _ _ _ _ _ _ _
   | exact signature_Power.mono _ _ _
   | exact signature_Public.mono _ _
   | exact signature_Sign.mono _ _ _ _ _ _
   | exact signature_Verify.mono _ _ _ _ _ _ _ _
   | exact LeO.none _
   | refine LeO.ite ?_ ?_
   | refine LeO.bind ?_ (fun _ => ?_)
  ·intro y0 y1 y2 y3 y4 y5 y6 y7 y8 y9 y10 y11 y12 y13 y14 y15 y16 y17
   unfold awardingbodylaw41_SignatureExact.j2
   repeat' first
   | (with_reducible exact ih0 _ _ _ _ _ _ _ _ _ _ _ _)
   | (with_reducible exact ih1 _ _ _ _ _ _ _ _ _ _ _ _ _ _ _ _ _)
   | (with_reducible exact ih2 _ _ _ _ _ _ _ _ _ _ _ _ _ _ _ _ _ _)
   | (with_reducible exact awardingbodylaw41_sane.mono _)
   | (with_reducible exact awardingbodyref41_Challenge.mono _ _ _ _ _ _ _)
   | (with_reducible exact awardingbodyref41_Power.mono _ _ _)
   | (with_reducible exact awardingbodyref41_Public.mono _ _)
   | (with_reducible exact awardingbodyref41_Sign.mono _ _ _ _ _ _)
   | (with_reducible exact awardingbodyref41_Verify.mono _ _ _ _ _ _ _ _)
   | (with_reducible exact signature_Challenge.mono _ _ _ _ _ _ _)
   | (with_reducible exact signature_Power.mono _ _ _)
   | (with_reducible exact signature_Public.mono _ _)
   | (with_reducible exact signature_Sign.mono _ _ _ _ _ _)
   | (with_reducible exact signature_Verify.mono _ _ _ _ _ _ _ _)
   | (with_reducible exact LeO.refl _)
   | (with_reducible exact LeO.none _)
   | (with_reducible refine LeO.ite ?_ ?_)
   | (with_reducible refine LeO.bind ?_ (fun _ => ?_))
   | exact ih0 _ _ _ _ _ _ _ _ _ _ _ _
   | exact ih1 _ _ _ _ _ _ _ _ _ _ _ _ _ _ _ _ _
   | exact ih2 _ _ _ _ _ _ _ _ _ _ _ _ _ _ _ _ _ _
   | exact awardingbodylaw41_sane.mono _
   | exact awardingbodyref41_Challenge.mono _ _ _ _ _ _ _
   | exact awardingbodyref41_Power.mono _ _ _
   | exact awardingbodyref41_Public.mono _ _
   | exact awardingbodyref41_Sign.mono _ _ _ _ _ _
   | exact awardingbodyref41_Verify.mono _ _ _ _ _ _ _ _
   | exact signature_Challenge.mono _ _ _ _ _ _ _
   | exact signature_Power.mono _ _ _
   | exact signature_Public.mono _ _
   | exact signature_Sign.mono _ _ _ _ _ _
   | exact signature_Verify.mono _ _ _ _ _ _ _ _
   | exact LeO.none _
   | refine LeO.ite ?_ ?_
   | refine LeO.bind ?_ (fun _ => ?_)
theorem awardingbodylaw41_SignatureExact.mono : ∀ a0 a1 a2 a3 a4 a5 a6 a7 a8 k,LeO (awardingbodylaw41_SignatureExact.f k a0 a1 a2 a3 a4 a5 a6 a7 a8) (awardingbodylaw41_SignatureExact.f (k + 1) a0 a1 a2 a3 a4 a5 a6 a7 a8):=by
 intro a0 a1 a2 a3 a4 a5 a6 a7 a8 k
 obtain ⟨ih0,ih1,ih2⟩:=awardingbodylaw41_SignatureExact.mono_l k
 unfold awardingbodylaw41_SignatureExact.f
 repeat' first
   | (with_reducible exact ih0 _ _ _ _ _ _ _ _ _ _ _ _)
   | (with_reducible exact ih1 _ _ _ _ _ _ _ _ _ _ _ _ _ _ _ _ _)
   | (with_reducible exact ih2 _ _ _ _ _ _ _ _ _ _ _ _ _ _ _ _ _ _)
   | (with_reducible exact awardingbodylaw41_sane.mono _)
   | (with_reducible exact awardingbodyref41_Challenge.mono _ _ _ _ _ _ _)
   | (with_reducible exact awardingbodyref41_Power.mono _ _ _)
   | (with_reducible exact awardingbodyref41_Public.mono _ _)
   | (with_reducible exact awardingbodyref41_Sign.mono _ _ _ _ _ _)
   | (with_reducible exact awardingbodyref41_Verify.mono _ _ _ _ _ _ _ _)
   | (with_reducible exact signature_Challenge.mono _ _ _ _ _ _ _)
   | (with_reducible exact signature_Power.mono _ _ _)
   | (with_reducible exact signature_Public.mono _ _)
   | (with_reducible exact signature_Sign.mono _ _ _ _ _ _)
   | (with_reducible exact signature_Verify.mono _ _ _ _ _ _ _ _)
   | (with_reducible exact LeO.refl _)
   | (with_reducible exact LeO.none _)
   | (with_reducible refine LeO.ite ?_ ?_)
   | (with_reducible refine LeO.bind ?_ (fun _ => ?_))
   | exact ih0 _ _ _ _ _ _ _ _ _ _ _ _
   | exact ih1 _ _ _ _ _ _ _ _ _ _ _ _ _ _ _ _ _
   | exact ih2 _ _ _ _ _ _ _ _ _ _ _ _ _ _ _ _ _ _
   | exact awardingbodylaw41_sane.mono _
   | exact awardingbodyref41_Challenge.mono _ _ _ _ _ _ _
   | exact awardingbodyref41_Power.mono _ _ _
   | exact awardingbodyref41_Public.mono _ _
   | exact awardingbodyref41_Sign.mono _ _ _ _ _ _
   | exact awardingbodyref41_Verify.mono _ _ _ _ _ _ _ _
   | exact signature_Challenge.mono _ _ _ _ _ _ _
   | exact signature_Power.mono _ _ _
   | exact signature_Public.mono _ _
   | exact signature_Sign.mono _ _ _ _ _ _
   | exact signature_Verify.mono _ _ _ _ _ _ _ _
   | exact LeO.none _
   | refine LeO.ite ?_ ?_
   | refine LeO.bind ?_ (fun _ => ?_)
def awardingbodylaw41_SignatureExact.T13 : Bool × List (List Nat × List Nat):=(true,[([],[]),([0],[0]),([],[]),([2],[2]),([1,3],[1,3]),([],[]),([5],[5]),([],[]),([7],[7]),([6,8,4],[6,8]),([4,9],[4,9]),([10,9],[10]),([11],[11]),([12,11],[11,12]),([11],[11]),([14,11],[11,14]),([11],[11]),([13,15,16,11,11],[11,13,15,16]),([11],[11]),([18,11],[11,18]),([11],[11]),([20,11],[11,20]),([11],[11]),([19,21,22,17,11],[11,19,21,22]),([17,23,11],[11,17,23]),([11,24],[11,24])])
def awardingbodylaw41_SignatureExact.B13 : List Nat:=[0,1,0,4,15,0,32,0,128,511,1023,2047,4095,8191,4095,20479,4095,131071,4095,266239,4095,1052671,4095,8388607,16777215,33554431]
theorem awardingbodylaw41_SignatureExact.tab13 : rtab .any (opsOf Try.f3 13) = awardingbodylaw41_SignatureExact.T13:=by kernel_rfl
theorem awardingbodylaw41_SignatureExact.bits13 : waitsOk awardingbodylaw41_SignatureExact.T13.2 awardingbodylaw41_SignatureExact.B13 = true:=by kernel_rfl
def awardingbodylaw41_SignatureExact.T17 : Bool × List (List Nat × List Nat):=(true,[([],[]),([],[]),([],[]),([0,1,2],[0,1,2]),([],[]),([],[]),([],[]),([4,5,6,3],[4,5,6]),([3,7],[3,7]),([8,7],[8]),([9],[9]),([9],[9]),([9],[9]),([10,11,12,9,9],[9,10,11,12]),([9],[9]),([9],[9]),([9],[9]),([14,15,16,13,9],[9,14,15,16]),([13,17,9],[9,13,17]),([9,18],[9,18]),([19,17],[19]),([20],[20]),([20],[20]),([20],[20]),([21,22,23,20,20],[20,21,22,23]),([20],[20]),([20],[20]),([20],[20]),([25,26,27,24,20],[20,25,26,27]),([24,28,20],[20,24,28]),([20,29],[20,29]),([30,28],[30]),([31,31],[31]),([31,32],[31,32]),([33,32,0,1,2,3,4,5,6,7,8,9,10,11,12,13,14,15,16,17,18,19,20,21,22,23,24,25,26,27,28,29,30,31,32,33],[33])])
def awardingbodylaw41_SignatureExact.B17 : List Nat:=[0,0,0,7,0,0,0,127,255,511,1023,1023,1023,8191,1023,1023,1023,131071,262143,524287,1048575,2097151,2097151,2097151,16777215,2097151,2097151,2097151,268435455,536870911,1073741823,2147483647,4294967295,8589934591,17179869183]
theorem awardingbodylaw41_SignatureExact.tab17 : rtab .any (opsOf Try.f3 17) = awardingbodylaw41_SignatureExact.T17:=by kernel_rfl
theorem awardingbodylaw41_SignatureExact.bits17 : waitsOk awardingbodylaw41_SignatureExact.T17.2 awardingbodylaw41_SignatureExact.B17 = true:=by kernel_rfl
set_option maxHeartbeats 8000000 in
set_option maxRecDepth 100000 in
theorem awardingbodylaw41_SignatureExact.calls (k : Nat) (a0 : Int) (a1 : Int) (a2 : Int) (a3_0 : Int) (a3_1 : Int) (a3_2 : Int) (a3_3 : Int) (a4_0 : Int) (a4_1 : Int) (r : Bool) (w : World) (h : awardingbodylaw41_SignatureExact.f k a0 a1 a2 a3_0 a3_1 a3_2 a3_3 a4_0 a4_1 = some r) :
  Calls Try.prog 3 #[.int .i64 a0,.int .i64 a1,.int .i64 a2,.agg #[.int .u32 a3_0,.int .u32 a3_1,.int .u32 a3_2,.int .u32 a3_3],.agg #[.int .i64 a4_0,.int .i64 a4_1]] w fun e w' => e = .returned (.bool r) ∧ Below w.heap.size w w':=by
 have hu24:=Try.underlying24
 have hu26:=Try.underlying26
 have hu34:=Try.underlying34
 have hu35:=Try.underlying35
 have HB:=AK (Below.refl w.heap.size w)
 have H : ((awardingbodymark_Mod.f a2 1073741788).bind fun t273 => ((signature_Public.f k a2).bind fun bt274 => ((awardingbodyref41_Public.f k a2).bind fun bt276 => ((signature_Sign.f k a2 a3_0 a3_1 a3_2 a3_3).bind fun bt278 => ((awardingbodyref41_Sign.f k a2 a3_0 a3_1 a3_2 a3_3).bind fun bt282 => ((signature_Sign.f k (wrap64 (1 + t273)) a3_0 a3_1 a3_2 a3_3).bind fun bt286 => ((awardingbodyref41_Sign.f k (wrap64 (1 + t273)) a3_0 a3_1 a3_2 a3_3).bind fun bt290 => (if bt274.1 = bt276.1 then (if bt274.2 = bt276.2 then (if (!(bt278.1 == bt282.1) || (!(bt278.2.1 == bt282.2.1))) = true then (awardingbodylaw41_SignatureExact.j0 k a0 a1 (wrap64 (1 + t273)) true a3_0 a3_1 a3_2 a3_3 a4_0 a4_1 bt290.1 bt290.2.1) else (if bt278.2.2 = bt282.2.2 then (if (!(bt286.1 == bt290.1) || (!(bt286.2.1 == bt290.2.1))) = true then (awardingbodylaw41_SignatureExact.j0 k a0 a1 (wrap64 (1 + t273)) true a3_0 a3_1 a3_2 a3_3 a4_0 a4_1 bt290.1 bt290.2.1) else (if bt286.2.2 = bt290.2.2 then ((signature_Valid.f a2).bind fun t294 => ((awardingbodyref41_Valid.f a2).bind fun t295 => (awardingbodylaw41_SignatureExact.j0 k a0 a1 (wrap64 (1 + t273)) (t294 != t295) a3_0 a3_1 a3_2 a3_3 a4_0 a4_1 bt290.1 bt290.2.1))) else (awardingbodylaw41_SignatureExact.j0 k a0 a1 (wrap64 (1 + t273)) true a3_0 a3_1 a3_2 a3_3 a4_0 a4_1 bt290.1 bt290.2.1))) else (awardingbodylaw41_SignatureExact.j0 k a0 a1 (wrap64 (1 + t273)) true a3_0 a3_1 a3_2 a3_3 a4_0 a4_1 bt290.1 bt290.2.1))) else (awardingbodylaw41_SignatureExact.j0 k a0 a1 (wrap64 (1 + t273)) true a3_0 a3_1 a3_2 a3_3 a4_0 a4_1 bt290.1 bt290.2.1)) else (awardingbodylaw41_SignatureExact.j0 k a0 a1 (wrap64 (1 + t273)) true a3_0 a3_1 a3_2 a3_3 a4_0 a4_1 bt290.1 bt290.2.1))))))))) = some r:=h
 clear h
 replace H:=Option.bind_eq_some_iff.mp H
 obtain ⟨t273,A60,H⟩:=H
 replace H : ((signature_Public.f k a2).bind fun bt274 => ((awardingbodyref41_Public.f k a2).bind fun bt276 => ((signature_Sign.f k a2 a3_0 a3_1 a3_2 a3_3).bind fun bt278 => ((awardingbodyref41_Sign.f k a2 a3_0 a3_1 a3_2 a3_3).bind fun bt282 => ((signature_Sign.f k (wrap64 (1 + t273)) a3_0 a3_1 a3_2 a3_3).bind fun bt286 => ((awardingbodyref41_Sign.f k (wrap64 (1 + t273)) a3_0 a3_1 a3_2 a3_3).bind fun bt290 => (if bt274.1 = bt276.1 then (if bt274.2 = bt276.2 then (if (!(bt278.1 == bt282.1) || (!(bt278.2.1 == bt282.2.1))) = true then (awardingbodylaw41_SignatureExact.j0 k a0 a1 (wrap64 (1 + t273)) true a3_0 a3_1 a3_2 a3_3 a4_0 a4_1 bt290.1 bt290.2.1) else (if bt278.2.2 = bt282.2.2 then (if (!(bt286.1 == bt290.1) || (!(bt286.2.1 == bt290.2.1))) = true then (awardingbodylaw41_SignatureExact.j0 k a0 a1 (wrap64 (1 + t273)) true a3_0 a3_1 a3_2 a3_3 a4_0 a4_1 bt290.1 bt290.2.1) else (if bt286.2.2 = bt290.2.2 then ((signature_Valid.f a2).bind fun t294 => ((awardingbodyref41_Valid.f a2).bind fun t295 => (awardingbodylaw41_SignatureExact.j0 k a0 a1 (wrap64 (1 + t273)) (t294 != t295) a3_0 a3_1 a3_2 a3_3 a4_0 a4_1 bt290.1 bt290.2.1))) else (awardingbodylaw41_SignatureExact.j0 k a0 a1 (wrap64 (1 + t273)) true a3_0 a3_1 a3_2 a3_3 a4_0 a4_1 bt290.1 bt290.2.1))) else (awardingbodylaw41_SignatureExact.j0 k a0 a1 (wrap64 (1 + t273)) true a3_0 a3_1 a3_2 a3_3 a4_0 a4_1 bt290.1 bt290.2.1))) else (awardingbodylaw41_SignatureExact.j0 k a0 a1 (wrap64 (1 + t273)) true a3_0 a3_1 a3_2 a3_3 a4_0 a4_1 bt290.1 bt290.2.1)) else (awardingbodylaw41_SignatureExact.j0 k a0 a1 (wrap64 (1 + t273)) true a3_0 a3_1 a3_2 a3_3 a4_0 a4_1 bt290.1 bt290.2.1)))))))) = some r:=H
 have A6:=AK A60
 clear A60
 replace H:=Option.bind_eq_some_iff.mp H
 obtain ⟨⟨t274,t275⟩,A70,H⟩:=H
 replace H : ((awardingbodyref41_Public.f k a2).bind fun bt276 => ((signature_Sign.f k a2 a3_0 a3_1 a3_2 a3_3).bind fun bt278 => ((awardingbodyref41_Sign.f k a2 a3_0 a3_1 a3_2 a3_3).bind fun bt282 => ((signature_Sign.f k (wrap64 (1 + t273)) a3_0 a3_1 a3_2 a3_3).bind fun bt286 => ((awardingbodyref41_Sign.f k (wrap64 (1 + t273)) a3_0 a3_1 a3_2 a3_3).bind fun bt290 => (if t274 = bt276.1 then (if t275 = bt276.2 then (if (!(bt278.1 == bt282.1) || (!(bt278.2.1 == bt282.2.1))) = true then (awardingbodylaw41_SignatureExact.j0 k a0 a1 (wrap64 (1 + t273)) true a3_0 a3_1 a3_2 a3_3 a4_0 a4_1 bt290.1 bt290.2.1) else (if bt278.2.2 = bt282.2.2 then (if (!(bt286.1 == bt290.1) || (!(bt286.2.1 == bt290.2.1))) = true then (awardingbodylaw41_SignatureExact.j0 k a0 a1 (wrap64 (1 + t273)) true a3_0 a3_1 a3_2 a3_3 a4_0 a4_1 bt290.1 bt290.2.1) else (if bt286.2.2 = bt290.2.2 then ((signature_Valid.f a2).bind fun t294 => ((awardingbodyref41_Valid.f a2).bind fun t295 => (awardingbodylaw41_SignatureExact.j0 k a0 a1 (wrap64 (1 + t273)) (t294 != t295) a3_0 a3_1 a3_2 a3_3 a4_0 a4_1 bt290.1 bt290.2.1))) else (awardingbodylaw41_SignatureExact.j0 k a0 a1 (wrap64 (1 + t273)) true a3_0 a3_1 a3_2 a3_3 a4_0 a4_1 bt290.1 bt290.2.1))) else (awardingbodylaw41_SignatureExact.j0 k a0 a1 (wrap64 (1 + t273)) true a3_0 a3_1 a3_2 a3_3 a4_0 a4_1 bt290.1 bt290.2.1))) else (awardingbodylaw41_SignatureExact.j0 k a0 a1 (wrap64 (1 + t273)) true a3_0 a3_1 a3_2 a3_3 a4_0 a4_1 bt290.1 bt290.2.1)) else (awardingbodylaw41_SignatureExact.j0 k a0 a1 (wrap64 (1 + t273)) true a3_0 a3_1 a3_2 a3_3 a4_0 a4_1 bt290.1 bt290.2.1))))))) = some r:=H
 have A7:=AK A70
 clear A70
 replace H:=Option.bind_eq_some_iff.mp H
 obtain ⟨⟨t276,t277⟩,A80,H⟩:=H
 replace H : ((signature_Sign.f k a2 a3_0 a3_1 a3_2 a3_3).bind fun bt278 => ((awardingbodyref41_Sign.f k a2 a3_0 a3_1 a3_2 a3_3).bind fun bt282 => ((signature_Sign.f k (wrap64 (1 + t273)) a3_0 a3_1 a3_2 a3_3).bind fun bt286 => ((awardingbodyref41_Sign.f k (wrap64 (1 + t273)) a3_0 a3_1 a3_2 a3_3).bind fun bt290 => (if t274 = t276 then (if t275 = t277 then (if (!(bt278.1 == bt282.1) || (!(bt278.2.1 == bt282.2.1))) = true then (awardingbodylaw41_SignatureExact.j0 k a0 a1 (wrap64 (1 + t273)) true a3_0 a3_1 a3_2 a3_3 a4_0 a4_1 bt290.1 bt290.2.1) else (if bt278.2.2 = bt282.2.2 then (if (!(bt286.1 == bt290.1) || (!(bt286.2.1 == bt290.2.1))) = true then (awardingbodylaw41_SignatureExact.j0 k a0 a1 (wrap64 (1 + t273)) true a3_0 a3_1 a3_2 a3_3 a4_0 a4_1 bt290.1 bt290.2.1) else (if bt286.2.2 = bt290.2.2 then ((signature_Valid.f a2).bind fun t294 => ((awardingbodyref41_Valid.f a2).bind fun t295 => (awardingbodylaw41_SignatureExact.j0 k a0 a1 (wrap64 (1 + t273)) (t294 != t295) a3_0 a3_1 a3_2 a3_3 a4_0 a4_1 bt290.1 bt290.2.1))) else (awardingbodylaw41_SignatureExact.j0 k a0 a1 (wrap64 (1 + t273)) true a3_0 a3_1 a3_2 a3_3 a4_0 a4_1 bt290.1 bt290.2.1))) else (awardingbodylaw41_SignatureExact.j0 k a0 a1 (wrap64 (1 + t273)) true a3_0 a3_1 a3_2 a3_3 a4_0 a4_1 bt290.1 bt290.2.1))) else (awardingbodylaw41_SignatureExact.j0 k a0 a1 (wrap64 (1 + t273)) true a3_0 a3_1 a3_2 a3_3 a4_0 a4_1 bt290.1 bt290.2.1)) else (awardingbodylaw41_SignatureExact.j0 k a0 a1 (wrap64 (1 + t273)) true a3_0 a3_1 a3_2 a3_3 a4_0 a4_1 bt290.1 bt290.2.1)))))) = some r:=H
 have A8:=AK A80
 clear A80
 replace H:=Option.bind_eq_some_iff.mp H
 obtain ⟨⟨t278,t279,t280⟩,A90,H⟩:=H
 replace H : ((awardingbodyref41_Sign.f k a2 a3_0 a3_1 a3_2 a3_3).bind fun bt282 => ((signature_Sign.f k (wrap64 (1 + t273)) a3_0 a3_1 a3_2 a3_3).bind fun bt286 => ((awardingbodyref41_Sign.f k (wrap64 (1 + t273)) a3_0 a3_1 a3_2 a3_3).bind fun bt290 => (if t274 = t276 then (if t275 = t277 then (if (!(t278 == bt282.1) || (!(t279 == bt282.2.1))) = true then (awardingbodylaw41_SignatureExact.j0 k a0 a1 (wrap64 (1 + t273)) true a3_0 a3_1 a3_2 a3_3 a4_0 a4_1 bt290.1 bt290.2.1) else (if t280 = bt282.2.2 then (if (!(bt286.1 == bt290.1) || (!(bt286.2.1 == bt290.2.1))) = true then (awardingbodylaw41_SignatureExact.j0 k a0 a1 (wrap64 (1 + t273)) true a3_0 a3_1 a3_2 a3_3 a4_0 a4_1 bt290.1 bt290.2.1) else (if bt286.2.2 = bt290.2.2 then ((signature_Valid.f a2).bind fun t294 => ((awardingbodyref41_Valid.f a2).bind fun t295 => (awardingbodylaw41_SignatureExact.j0 k a0 a1 (wrap64 (1 + t273)) (t294 != t295) a3_0 a3_1 a3_2 a3_3 a4_0 a4_1 bt290.1 bt290.2.1))) else (awardingbodylaw41_SignatureExact.j0 k a0 a1 (wrap64 (1 + t273)) true a3_0 a3_1 a3_2 a3_3 a4_0 a4_1 bt290.1 bt290.2.1))) else (awardingbodylaw41_SignatureExact.j0 k a0 a1 (wrap64 (1 + t273)) true a3_0 a3_1 a3_2 a3_3 a4_0 a4_1 bt290.1 bt290.2.1))) else (awardingbodylaw41_SignatureExact.j0 k a0 a1 (wrap64 (1 + t273)) true a3_0 a3_1 a3_2 a3_3 a4_0 a4_1 bt290.1 bt290.2.1)) else (awardingbodylaw41_SignatureExact.j0 k a0 a1 (wrap64 (1 + t273)) true a3_0 a3_1 a3_2 a3_3 a4_0 a4_1 bt290.1 bt290.2.1))))) = some r:=H
 have A9:=AK A90
 clear A90
 replace H:=Option.bind_eq_some_iff.mp H
 obtain ⟨⟨t282,t283,t284⟩,A100,H⟩:=H
 replace H : ((signature_Sign.f k (wrap64 (1 + t273)) a3_0 a3_1 a3_2 a3_3).bind fun bt286 => ((awardingbodyref41_Sign.f k (wrap64 (1 + t273)) a3_0 a3_1 a3_2 a3_3).bind fun bt290 => (if t274 = t276 then (if t275 = t277 then (if (!(t278 == t282) || (!(t279 == t283))) = true then (awardingbodylaw41_SignatureExact.j0 k a0 a1 (wrap64 (1 + t273)) true a3_0 a3_1 a3_2 a3_3 a4_0 a4_1 bt290.1 bt290.2.1) else (if t280 = t284 then (if (!(bt286.1 == bt290.1) || (!(bt286.2.1 == bt290.2.1))) = true then (awardingbodylaw41_SignatureExact.j0 k a0 a1 (wrap64 (1 + t273)) true a3_0 a3_1 a3_2 a3_3 a4_0 a4_1 bt290.1 bt290.2.1) else (if bt286.2.2 = bt290.2.2 then ((signature_Valid.f a2).bind fun t294 => ((awardingbodyref41_Valid.f a2).bind fun t295 => (awardingbodylaw41_SignatureExact.j0 k a0 a1 (wrap64 (1 + t273)) (t294 != t295) a3_0 a3_1 a3_2 a3_3 a4_0 a4_1 bt290.1 bt290.2.1))) else (awardingbodylaw41_SignatureExact.j0 k a0 a1 (wrap64 (1 + t273)) true a3_0 a3_1 a3_2 a3_3 a4_0 a4_1 bt290.1 bt290.2.1))) else (awardingbodylaw41_SignatureExact.j0 k a0 a1 (wrap64 (1 + t273)) true a3_0 a3_1 a3_2 a3_3 a4_0 a4_1 bt290.1 bt290.2.1))) else (awardingbodylaw41_SignatureExact.j0 k a0 a1 (wrap64 (1 + t273)) true a3_0 a3_1 a3_2 a3_3 a4_0 a4_1 bt290.1 bt290.2.1)) else (awardingbodylaw41_SignatureExact.j0 k a0 a1 (wrap64 (1 + t273)) true a3_0 a3_1 a3_2 a3_3 a4_0 a4_1 bt290.1 bt290.2.1)))) = some r:=H
 have A10:=AK A100
 clear A100
 replace H:=Option.bind_eq_some_iff.mp H
 obtain ⟨⟨t286,t287,t288⟩,A110,H⟩:=H
 replace H : ((awardingbodyref41_Sign.f k (wrap64 (1 + t273)) a3_0 a3_1 a3_2 a3_3).bind fun bt290 => (if t274 = t276 then (if t275 = t277 then (if (!(t278 == t282) || (!(t279 == t283))) = true then (awardingbodylaw41_SignatureExact.j0 k a0 a1 (wrap64 (1 + t273)) true a3_0 a3_1 a3_2 a3_3 a4_0 a4_1 bt290.1 bt290.2.1) else (if t280 = t284 then (if (!(t286 == bt290.1) || (!(t287 == bt290.2.1))) = true then (awardingbodylaw41_SignatureExact.j0 k a0 a1 (wrap64 (1 + t273)) true a3_0 a3_1 a3_2 a3_3 a4_0 a4_1 bt290.1 bt290.2.1) else (if t288 = bt290.2.2 then ((signature_Valid.f a2).bind fun t294 => ((awardingbodyref41_Valid.f a2).bind fun t295 => (awardingbodylaw41_SignatureExact.j0 k a0 a1 (wrap64 (1 + t273)) (t294 != t295) a3_0 a3_1 a3_2 a3_3 a4_0 a4_1 bt290.1 bt290.2.1))) else (awardingbodylaw41_SignatureExact.j0 k a0 a1 (wrap64 (1 + t273)) true a3_0 a3_1 a3_2 a3_3 a4_0 a4_1 bt290.1 bt290.2.1))) else (awardingbodylaw41_SignatureExact.j0 k a0 a1 (wrap64 (1 + t273)) true a3_0 a3_1 a3_2 a3_3 a4_0 a4_1 bt290.1 bt290.2.1))) else (awardingbodylaw41_SignatureExact.j0 k a0 a1 (wrap64 (1 + t273)) true a3_0 a3_1 a3_2 a3_3 a4_0 a4_1 bt290.1 bt290.2.1)) else (awardingbodylaw41_SignatureExact.j0 k a0 a1 (wrap64 (1 + t273)) true a3_0 a3_1 a3_2 a3_3 a4_0 a4_1 bt290.1 bt290.2.1))) = some r:=H
 have A11:=AK A110
 clear A110
 replace H:=Option.bind_eq_some_iff.mp H
 obtain ⟨⟨t290,t291,t292⟩,A120,H⟩:=H
 replace H : (if t274 = t276 then (if t275 = t277 then (if (!(t278 == t282) || (!(t279 == t283))) = true then (awardingbodylaw41_SignatureExact.j0 k a0 a1 (wrap64 (1 + t273)) true a3_0 a3_1 a3_2 a3_3 a4_0 a4_1 t290 t291) else (if t280 = t284 then (if (!(t286 == t290) || (!(t287 == t291))) = true then (awardingbodylaw41_SignatureExact.j0 k a0 a1 (wrap64 (1 + t273)) true a3_0 a3_1 a3_2 a3_3 a4_0 a4_1 t290 t291) else (if t288 = t292 then ((signature_Valid.f a2).bind fun t294 => ((awardingbodyref41_Valid.f a2).bind fun t295 => (awardingbodylaw41_SignatureExact.j0 k a0 a1 (wrap64 (1 + t273)) (t294 != t295) a3_0 a3_1 a3_2 a3_3 a4_0 a4_1 t290 t291))) else (awardingbodylaw41_SignatureExact.j0 k a0 a1 (wrap64 (1 + t273)) true a3_0 a3_1 a3_2 a3_3 a4_0 a4_1 t290 t291))) else (awardingbodylaw41_SignatureExact.j0 k a0 a1 (wrap64 (1 + t273)) true a3_0 a3_1 a3_2 a3_3 a4_0 a4_1 t290 t291))) else (awardingbodylaw41_SignatureExact.j0 k a0 a1 (wrap64 (1 + t273)) true a3_0 a3_1 a3_2 a3_3 a4_0 a4_1 t290 t291)) else (awardingbodylaw41_SignatureExact.j0 k a0 a1 (wrap64 (1 + t273)) true a3_0 a3_1 a3_2 a3_3 a4_0 a4_1 t290 t291)) = some r:=H
 have A12:=AK A120
 clear A120
 have HC13:=AK H
 clear H
 go_enter Try.func3,Try.ntmps3
 go_upto_region 8 with (first|((with_reducible refine gate_dst (N:=8) rfl ?_);refine box_event ?hg (N:=8) ?hd (cs:=#[.int .u32 a3_0,.int .u32 a3_1,.int .u32 a3_2,.int .u32 a3_3]) (t:=24) ?hr ?_;(case hd => rfl);(case hg => rfl);(case hr => first|(go_simp;done)|(go_simp;rfl));intro gb271 hg w14 hbox hb;have n0_:=AK (below_step (by repeat (first|(with_reducible first|exact HB.out|apply below_alloc|apply D7|apply below_drew1)|exact HB.out)) hb);have n1_:=AK (hbox);have n2_:=AK ((by rw [hg];exact (below_size (by repeat (first|(with_reducible first|exact HB.out|apply below_alloc|apply D7|apply below_drew1)|exact HB.out))) : w.heap.size ≤ gb271));have n3_:=AK ((by rw [hg];exact (below_size (by repeat (first|(with_reducible first|exact HB.out|apply below_alloc|apply D7|apply below_drew1)|exact HB.out))) : w.heap.size ≤ gb271));clear HB;have HB:=n0_;have BK271:=n1_;have GW271:=n2_;have GE271:=n3_;clear n0_ n1_ n2_ n3_;clear hb hbox hg)|((with_reducible refine gate_dst (N:=9) rfl ?_);refine box_event ?hg (N:=9) ?hd (cs:=#[.int .i64 a4_0,.int .i64 a4_1]) (t:=26) ?hr ?_;(case hd => rfl);(case hg => rfl);(case hr => first|(go_simp;done)|(go_simp;rfl));intro gb272 hg w15 hbox hb;have n0_:=AK (D6 (g:=gb271) (o:=.cells #[.int .u32 a3_0,.int .u32 a3_1,.int .u32 a3_2,.int .u32 a3_3] 24 (0,0)) (by (with_reducible repeat (first|refine D1 ?_ _|refine D2 ?_|refine D3 ?_ _));exact BK271.out) hb);have n1_:=AK (below_step (by repeat (first|(with_reducible first|exact HB.out|apply below_alloc|apply D7|apply below_drew1|refine D4 ?_ GE271.out)|exact HB.out)) hb);have n2_:=AK (hbox);have n3_:=AK ((by rw [hg];exact (below_size (by repeat (first|(with_reducible first|exact HB.out|apply below_alloc|apply D7|apply below_drew1|refine D4 ?_ GE271.out)|exact HB.out))) : w.heap.size ≤ gb272));have n4_:=AK ((by rw [hg];exact (below_size (by repeat (first|(with_reducible first|exact HB.out|apply below_alloc|apply D7|apply below_drew1|refine D4 ?_ GE271.out)|exact HB.out))) : w.heap.size ≤ gb272));have n5_:=AK ((by rw [hg];exact Nat.ne_of_lt (blk_lt (g:=gb271) (o:=.cells #[.int .u32 a3_0,.int .u32 a3_1,.int .u32 a3_2,.int .u32 a3_3] 24 (0,0)) (by (with_reducible repeat (first|refine D1 ?_ _|refine D2 ?_|refine D3 ?_ _));exact BK271.out)) : gb271 ≠ gb272));have n6_:=AK ((by rw [hg];exact Nat.ne_of_gt (blk_lt (g:=gb271) (o:=.cells #[.int .u32 a3_0,.int .u32 a3_1,.int .u32 a3_2,.int .u32 a3_3] 24 (0,0)) (by (with_reducible repeat (first|refine D1 ?_ _|refine D2 ?_|refine D3 ?_ _));exact BK271.out)) : gb272 ≠ gb271));clear BK271;clear HB;have BK271:=n0_;have HB:=n1_;have BK272:=n2_;have GW272:=n3_;have GE272:=n4_;have NB271_272:=n5_;have NB272_271:=n6_;clear n0_ n1_ n2_ n3_ n4_ n5_ n6_;clear hb hbox hg)|((with_reducible refine gate_callee (f:=8) rfl ?_);refine goesL_ (some 29) rfl rfl Try.func8 (by kernel_rfl) rfl #[.int .i64 a2,.int .i64 1073741788] rfl (by (try simp only [List.map_toArray,List.map_cons,List.map_nil]);first|done|rfl|(simp only [List.length_drop,List.length_take];rfl)) ?_;(with_reducible refine (awardingbodymark_Mod.calls a2 1073741788 t273 _ A6.out).mono ?_);rintro e w' ⟨rfl,⟨nd,rfl⟩⟩;refine ⟨_,rfl,?_⟩;(try (rw [drewN_self w15];generalize hq_ : World.drewN w15 _ = w15;have n0_ : Aside0 (w15.heap[gb271]? = some (.cells #[.int .u32 a3_0,.int .u32 a3_1,.int .u32 a3_2,.int .u32 a3_3] 24 (0,0))):=⟨by rw [← hq_];exact (by (with_reducible repeat (first|refine D1 ?_ _|refine D2 ?_|refine D3 ?_ _));exact BK271.out)⟩;have n1_ : Aside0 (w15.heap[gb272]? = some (.cells #[.int .i64 a4_0,.int .i64 a4_1] 26 (0,0))):=⟨by rw [← hq_];exact (by (with_reducible repeat (first|refine D1 ?_ _|refine D2 ?_|refine D3 ?_ _));exact BK272.out)⟩;have n2_ : Aside0 (Below w.heap.size w w15):=⟨by rw [← hq_];exact (by repeat (first|(with_reducible first|exact HB.out|apply below_alloc|apply D7|apply below_drew1|refine D4 ?_ GE271.out|refine D4 ?_ GE272.out)|exact HB.out))⟩;clear BK271 BK272 HB hq_;have BK271:=n0_;have BK272:=n1_;have HB:=n2_;clear n0_ n1_ n2_)))|((with_reducible refine gate_callee (f:=9) rfl ?_);refine goesL_ (some 33) rfl rfl Try.func9 (by kernel_rfl) rfl #[.int .i64 a2] rfl (by (try simp only [List.map_toArray,List.map_cons,List.map_nil]);first|done|rfl|(simp only [List.length_drop,List.length_take];rfl)) ?_;(with_reducible refine (signature_Public.calls k a2 t274 t275 _ A7.out).mono ?_);rintro e w' ⟨rfl,⟨nd,rfl⟩⟩;refine ⟨_,rfl,?_⟩;(try (rw [drewN_self w15];generalize hq_ : World.drewN w15 _ = w15;have n0_ : Aside0 (w15.heap[gb271]? = some (.cells #[.int .u32 a3_0,.int .u32 a3_1,.int .u32 a3_2,.int .u32 a3_3] 24 (0,0))):=⟨by rw [← hq_];exact (by (with_reducible repeat (first|refine D1 ?_ _|refine D2 ?_|refine D3 ?_ _));exact BK271.out)⟩;have n1_ : Aside0 (w15.heap[gb272]? = some (.cells #[.int .i64 a4_0,.int .i64 a4_1] 26 (0,0))):=⟨by rw [← hq_];exact (by (with_reducible repeat (first|refine D1 ?_ _|refine D2 ?_|refine D3 ?_ _));exact BK272.out)⟩;have n2_ : Aside0 (Below w.heap.size w w15):=⟨by rw [← hq_];exact (by repeat (first|(with_reducible first|exact HB.out|apply below_alloc|apply D7|apply below_drew1|refine D4 ?_ GE271.out|refine D4 ?_ GE272.out)|exact HB.out))⟩;clear BK271 BK272 HB hq_;have BK271:=n0_;have BK272:=n1_;have HB:=n2_;clear n0_ n1_ n2_)))|((with_reducible refine gate_callee (f:=10) rfl ?_);refine goesL_ (some 38) rfl rfl Try.func10 (by kernel_rfl) rfl #[.int .i64 a2] rfl (by (try simp only [List.map_toArray,List.map_cons,List.map_nil]);first|done|rfl|(simp only [List.length_drop,List.length_take];rfl)) ?_;(with_reducible refine (awardingbodyref41_Public.calls k a2 t276 t277 _ A8.out).mono ?_);rintro e w' ⟨rfl,⟨nd,rfl⟩⟩;refine ⟨_,rfl,?_⟩;(try (rw [drewN_self w15];generalize hq_ : World.drewN w15 _ = w15;have n0_ : Aside0 (w15.heap[gb271]? = some (.cells #[.int .u32 a3_0,.int .u32 a3_1,.int .u32 a3_2,.int .u32 a3_3] 24 (0,0))):=⟨by rw [← hq_];exact (by (with_reducible repeat (first|refine D1 ?_ _|refine D2 ?_|refine D3 ?_ _));exact BK271.out)⟩;have n1_ : Aside0 (w15.heap[gb272]? = some (.cells #[.int .i64 a4_0,.int .i64 a4_1] 26 (0,0))):=⟨by rw [← hq_];exact (by (with_reducible repeat (first|refine D1 ?_ _|refine D2 ?_|refine D3 ?_ _));exact BK272.out)⟩;have n2_ : Aside0 (Below w.heap.size w w15):=⟨by rw [← hq_];exact (by repeat (first|(with_reducible first|exact HB.out|apply below_alloc|apply D7|apply below_drew1|refine D4 ?_ GE271.out|refine D4 ?_ GE272.out)|exact HB.out))⟩;clear BK271 BK272 HB hq_;have BK271:=n0_;have BK272:=n1_;have HB:=n2_;clear n0_ n1_ n2_));have hnb16:=NB271_272.out;have hnc16:=NB272_271.out;have hcz17_0 : w15.cell? ⟨gb271,0,none⟩ = some (.int .u32 a3_0):=(D5 BK271.out 0).trans rfl;have hcz17_1 : w15.cell? ⟨gb271,1,none⟩ = some (.int .u32 a3_1):=(D5 BK271.out 1).trans rfl;have hcz17_2 : w15.cell? ⟨gb271,2,none⟩ = some (.int .u32 a3_2):=(D5 BK271.out 2).trans rfl;have hcz17_3 : w15.cell? ⟨gb271,3,none⟩ = some (.int .u32 a3_3):=(D5 BK271.out 3).trans rfl;have hfz17_0:=blk_frozen BK271.out 0;have hfz17_1:=blk_frozen BK271.out 1;have hfz17_2:=blk_frozen BK271.out 2;have hfz17_3:=blk_frozen BK271.out 3)|((with_reducible refine gate_callee (f:=11) rfl ?_);refine goesL_ (some 44) rfl rfl Try.func11 (by kernel_rfl) rfl #[.int .i64 a2,.agg #[.int .u32 a3_0,.int .u32 a3_1,.int .u32 a3_2,.int .u32 a3_3]] rfl (by (try simp only [List.map_toArray,List.map_cons,List.map_nil]);first|done|rfl|(simp only [List.length_drop,List.length_take];rfl)) ?_;(with_reducible refine (signature_Sign.calls k a2 a3_0 a3_1 a3_2 a3_3 t278 t279 t280 _ A9.out).mono ?_);rintro e w18 ⟨rfl,hb⟩;refine ⟨_,rfl,?_⟩;have n0_:=AK (D6 (g:=gb271) (o:=.cells #[.int .u32 a3_0,.int .u32 a3_1,.int .u32 a3_2,.int .u32 a3_3] 24 (0,0)) (by (with_reducible repeat (first|refine D1 ?_ _|refine D2 ?_|refine D3 ?_ _));exact BK271.out) hb);have n1_:=AK (D6 (g:=gb272) (o:=.cells #[.int .i64 a4_0,.int .i64 a4_1] 26 (0,0)) (by (with_reducible repeat (first|refine D1 ?_ _|refine D2 ?_|refine D3 ?_ _));exact BK272.out) hb);have n2_:=AK (below_step (by repeat (first|(with_reducible first|exact HB.out|apply below_alloc|apply D7|apply below_drew1|refine D4 ?_ GE271.out|refine D4 ?_ GE272.out)|exact HB.out)) hb);clear BK271;clear BK272;clear HB;have BK271:=n0_;have BK272:=n1_;have HB:=n2_;clear n0_ n1_ n2_;(try clear hb);(try clear hb2);(try clear hk);(try clear hi))|((with_reducible refine gate_dst (N:=16) rfl ?_);refine box_event ?hg (N:=16) ?hd (cs:=#[.int .i64 0,.int .i64 0]) (t:=26) ?hr ?_;(case hd => rfl);(case hg => rfl);(case hr => first|(go_simp;done)|(go_simp;rfl));intro gb281 hg w19 hbox hb;have n0_:=AK (D6 (g:=gb271) (o:=.cells #[.int .u32 a3_0,.int .u32 a3_1,.int .u32 a3_2,.int .u32 a3_3] 24 (0,0)) (by (with_reducible repeat (first|refine D1 ?_ _|refine D2 ?_|refine D3 ?_ _));exact BK271.out) hb);have n1_:=AK (D6 (g:=gb272) (o:=.cells #[.int .i64 a4_0,.int .i64 a4_1] 26 (0,0)) (by (with_reducible repeat (first|refine D1 ?_ _|refine D2 ?_|refine D3 ?_ _));exact BK272.out) hb);have n2_:=AK (below_step (by repeat (first|(with_reducible first|exact HB.out|apply below_alloc|apply D7|apply below_drew1|refine D4 ?_ GE271.out|refine D4 ?_ GE272.out)|exact HB.out)) hb);have n3_:=AK (hbox);have n4_:=AK ((by rw [hg];exact (below_size (by repeat (first|(with_reducible first|exact HB.out|apply below_alloc|apply D7|apply below_drew1|refine D4 ?_ GE271.out|refine D4 ?_ GE272.out)|exact HB.out))) : w.heap.size ≤ gb281));have n5_:=AK ((by rw [hg];exact (below_size (by repeat (first|(with_reducible first|exact HB.out|apply below_alloc|apply D7|apply below_drew1|refine D4 ?_ GE271.out|refine D4 ?_ GE272.out)|exact HB.out))) : w.heap.size ≤ gb281));have n6_:=AK ((by rw [hg];exact Nat.ne_of_lt (blk_lt (g:=gb271) (o:=.cells #[.int .u32 a3_0,.int .u32 a3_1,.int .u32 a3_2,.int .u32 a3_3] 24 (0,0)) (by (with_reducible repeat (first|refine D1 ?_ _|refine D2 ?_|refine D3 ?_ _));exact BK271.out)) : gb271 ≠ gb281));have n7_:=AK ((by rw [hg];exact Nat.ne_of_gt (blk_lt (g:=gb271) (o:=.cells #[.int .u32 a3_0,.int .u32 a3_1,.int .u32 a3_2,.int .u32 a3_3] 24 (0,0)) (by (with_reducible repeat (first|refine D1 ?_ _|refine D2 ?_|refine D3 ?_ _));exact BK271.out)) : gb281 ≠ gb271));have n8_:=AK ((by rw [hg];exact Nat.ne_of_lt (blk_lt (g:=gb272) (o:=.cells #[.int .i64 a4_0,.int .i64 a4_1] 26 (0,0)) (by (with_reducible repeat (first|refine D1 ?_ _|refine D2 ?_|refine D3 ?_ _));exact BK272.out)) : gb272 ≠ gb281));have n9_:=AK ((by rw [hg];exact Nat.ne_of_gt (blk_lt (g:=gb272) (o:=.cells #[.int .i64 a4_0,.int .i64 a4_1] 26 (0,0)) (by (with_reducible repeat (first|refine D1 ?_ _|refine D2 ?_|refine D3 ?_ _));exact BK272.out)) : gb281 ≠ gb272));clear BK271;clear BK272;clear HB;have BK271:=n0_;have BK272:=n1_;have HB:=n2_;have BK281:=n3_;have GW281:=n4_;have GE281:=n5_;have NB271_281:=n6_;have NB281_271:=n7_;have NB272_281:=n8_;have NB281_272:=n9_;clear n0_ n1_ n2_ n3_ n4_ n5_ n6_ n7_ n8_ n9_;clear hb hbox hg;have hnb20:=NB281_271.out;have hnc20:=NB271_281.out;have hnb21:=NB281_272.out;have hnc21:=NB272_281.out;have hcz22_0 : w19.cell? ⟨gb281,0,none⟩ = some (.int .i64 0):=(D5 BK281.out 0).trans rfl;have hcz22_1 : w19.cell? ⟨gb281,1,none⟩ = some (.int .i64 0):=(D5 BK281.out 1).trans rfl;have hfz22_0:=blk_frozen BK281.out 0;have hfz22_1:=blk_frozen BK281.out 1;have hcz23_0 : w19.cell? ⟨gb271,0,none⟩ = some (.int .u32 a3_0):=(D5 BK271.out 0).trans rfl;have hcz23_1 : w19.cell? ⟨gb271,1,none⟩ = some (.int .u32 a3_1):=(D5 BK271.out 1).trans rfl;have hcz23_2 : w19.cell? ⟨gb271,2,none⟩ = some (.int .u32 a3_2):=(D5 BK271.out 2).trans rfl;have hcz23_3 : w19.cell? ⟨gb271,3,none⟩ = some (.int .u32 a3_3):=(D5 BK271.out 3).trans rfl;have hfz23_0:=blk_frozen BK271.out 0;have hfz23_1:=blk_frozen BK271.out 1;have hfz23_2:=blk_frozen BK271.out 2;have hfz23_3:=blk_frozen BK271.out 3)|((with_reducible refine gate_callee (f:=12) rfl ?_);refine goesL_ (some 50) rfl rfl Try.func12 (by kernel_rfl) rfl #[.int .i64 a2,.agg #[.int .u32 a3_0,.int .u32 a3_1,.int .u32 a3_2,.int .u32 a3_3]] rfl (by (try simp only [List.map_toArray,List.map_cons,List.map_nil]);first|done|rfl|(simp only [List.length_drop,List.length_take];rfl)) ?_;(with_reducible refine (awardingbodyref41_Sign.calls k a2 a3_0 a3_1 a3_2 a3_3 t282 t283 t284 _ A10.out).mono ?_);rintro e w24 ⟨rfl,hb⟩;refine ⟨_,rfl,?_⟩;have n0_:=AK (D6 (g:=gb271) (o:=.cells #[.int .u32 a3_0,.int .u32 a3_1,.int .u32 a3_2,.int .u32 a3_3] 24 (0,0)) (by (with_reducible repeat (first|refine D1 ?_ _|refine D2 ?_|refine D3 ?_ _));refine blk_far ?_ NB271_281.out _;(with_reducible repeat (first|refine D1 ?_ _|refine D2 ?_|refine D3 ?_ _));refine blk_far ?_ NB271_281.out _;(with_reducible repeat (first|refine D1 ?_ _|refine D2 ?_|refine D3 ?_ _));exact BK271.out) hb);have n1_:=AK (D6 (g:=gb272) (o:=.cells #[.int .i64 a4_0,.int .i64 a4_1] 26 (0,0)) (by (with_reducible repeat (first|refine D1 ?_ _|refine D2 ?_|refine D3 ?_ _));refine blk_far ?_ NB272_281.out _;(with_reducible repeat (first|refine D1 ?_ _|refine D2 ?_|refine D3 ?_ _));refine blk_far ?_ NB272_281.out _;(with_reducible repeat (first|refine D1 ?_ _|refine D2 ?_|refine D3 ?_ _));exact BK272.out) hb);have n2_:=AK (D6 (g:=gb281) (o:=.cells #[.int .i64 t278,.int .i64 t279] 26 (0,0)) (by (with_reducible repeat (first|refine D1 ?_ _|refine D2 ?_|refine D3 ?_ _));refine blk_put (cs:=#[.int .i64 t278,.int .i64 0]) ?_ 1 _ rfl;(with_reducible repeat (first|refine D1 ?_ _|refine D2 ?_|refine D3 ?_ _));refine blk_put (cs:=#[.int .i64 0,.int .i64 0]) ?_ 0 _ rfl;(with_reducible repeat (first|refine D1 ?_ _|refine D2 ?_|refine D3 ?_ _));exact BK281.out) hb);have n3_:=AK (below_step (by repeat (first|(with_reducible first|exact HB.out|apply below_alloc|apply D7|apply below_drew1|refine D4 ?_ GE271.out|refine D4 ?_ GE272.out|refine D4 ?_ GE281.out)|exact HB.out)) hb);clear BK271;clear BK272;clear BK281;clear HB;have BK271:=n0_;have BK272:=n1_;have BK281:=n2_;have HB:=n3_;clear n0_ n1_ n2_ n3_;(try clear hb);(try clear hb2);(try clear hk);(try clear hi))|((with_reducible refine gate_dst (N:=18) rfl ?_);refine box_event ?hg (N:=18) ?hd (cs:=#[.int .i64 0,.int .i64 0]) (t:=26) ?hr ?_;(case hd => rfl);(case hg => rfl);(case hr => first|(go_simp;done)|(go_simp;rfl));intro gb285 hg w25 hbox hb;have n0_:=AK (D6 (g:=gb271) (o:=.cells #[.int .u32 a3_0,.int .u32 a3_1,.int .u32 a3_2,.int .u32 a3_3] 24 (0,0)) (by (with_reducible repeat (first|refine D1 ?_ _|refine D2 ?_|refine D3 ?_ _));exact BK271.out) hb);have n1_:=AK (D6 (g:=gb272) (o:=.cells #[.int .i64 a4_0,.int .i64 a4_1] 26 (0,0)) (by (with_reducible repeat (first|refine D1 ?_ _|refine D2 ?_|refine D3 ?_ _));exact BK272.out) hb);have n2_:=AK (D6 (g:=gb281) (o:=.cells #[.int .i64 t278,.int .i64 t279] 26 (0,0)) (by (with_reducible repeat (first|refine D1 ?_ _|refine D2 ?_|refine D3 ?_ _));exact BK281.out) hb);have n3_:=AK (below_step (by repeat (first|(with_reducible first|exact HB.out|apply below_alloc|apply D7|apply below_drew1|refine D4 ?_ GE271.out|refine D4 ?_ GE272.out|refine D4 ?_ GE281.out)|exact HB.out)) hb);have n4_:=AK (hbox);have n5_:=AK ((by rw [hg];exact (below_size (by repeat (first|(with_reducible first|exact HB.out|apply below_alloc|apply D7|apply below_drew1|refine D4 ?_ GE271.out|refine D4 ?_ GE272.out|refine D4 ?_ GE281.out)|exact HB.out))) : w.heap.size ≤ gb285));have n6_:=AK ((by rw [hg];exact (below_size (by repeat (first|(with_reducible first|exact HB.out|apply below_alloc|apply D7|apply below_drew1|refine D4 ?_ GE271.out|refine D4 ?_ GE272.out|refine D4 ?_ GE281.out)|exact HB.out))) : w.heap.size ≤ gb285));have n7_:=AK ((by rw [hg];exact Nat.ne_of_lt (blk_lt (g:=gb271) (o:=.cells #[.int .u32 a3_0,.int .u32 a3_1,.int .u32 a3_2,.int .u32 a3_3] 24 (0,0)) (by (with_reducible repeat (first|refine D1 ?_ _|refine D2 ?_|refine D3 ?_ _));exact BK271.out)) : gb271 ≠ gb285));have n8_:=AK ((by rw [hg];exact Nat.ne_of_gt (blk_lt (g:=gb271) (o:=.cells #[.int .u32 a3_0,.int .u32 a3_1,.int .u32 a3_2,.int .u32 a3_3] 24 (0,0)) (by (with_reducible repeat (first|refine D1 ?_ _|refine D2 ?_|refine D3 ?_ _));exact BK271.out)) : gb285 ≠ gb271));have n9_:=AK ((by rw [hg];exact Nat.ne_of_lt (blk_lt (g:=gb272) (o:=.cells #[.int .i64 a4_0,.int .i64 a4_1] 26 (0,0)) (by (with_reducible repeat (first|refine D1 ?_ _|refine D2 ?_|refine D3 ?_ _));exact BK272.out)) : gb272 ≠ gb285));have n10_:=AK ((by rw [hg];exact Nat.ne_of_gt (blk_lt (g:=gb272) (o:=.cells #[.int .i64 a4_0,.int .i64 a4_1] 26 (0,0)) (by (with_reducible repeat (first|refine D1 ?_ _|refine D2 ?_|refine D3 ?_ _));exact BK272.out)) : gb285 ≠ gb272));have n11_:=AK ((by rw [hg];exact Nat.ne_of_lt (blk_lt (g:=gb281) (o:=.cells #[.int .i64 t278,.int .i64 t279] 26 (0,0)) (by (with_reducible repeat (first|refine D1 ?_ _|refine D2 ?_|refine D3 ?_ _));exact BK281.out)) : gb281 ≠ gb285));have n12_:=AK ((by rw [hg];exact Nat.ne_of_gt (blk_lt (g:=gb281) (o:=.cells #[.int .i64 t278,.int .i64 t279] 26 (0,0)) (by (with_reducible repeat (first|refine D1 ?_ _|refine D2 ?_|refine D3 ?_ _));exact BK281.out)) : gb285 ≠ gb281));clear BK271;clear BK272;clear BK281;clear HB;have BK271:=n0_;have BK272:=n1_;have BK281:=n2_;have HB:=n3_;have BK285:=n4_;have GW285:=n5_;have GE285:=n6_;have NB271_285:=n7_;have NB285_271:=n8_;have NB272_285:=n9_;have NB285_272:=n10_;have NB281_285:=n11_;have NB285_281:=n12_;clear n0_ n1_ n2_ n3_ n4_ n5_ n6_ n7_ n8_ n9_ n10_ n11_ n12_;clear hb hbox hg;have hnb26:=NB285_271.out;have hnc26:=NB271_285.out;have hnb27:=NB285_272.out;have hnc27:=NB272_285.out;have hnb28:=NB285_281.out;have hnc28:=NB281_285.out;have hcz29_0 : w25.cell? ⟨gb285,0,none⟩ = some (.int .i64 0):=(D5 BK285.out 0).trans rfl;have hcz29_1 : w25.cell? ⟨gb285,1,none⟩ = some (.int .i64 0):=(D5 BK285.out 1).trans rfl;have hfz29_0:=blk_frozen BK285.out 0;have hfz29_1:=blk_frozen BK285.out 1;have hcz30_0 : w25.cell? ⟨gb271,0,none⟩ = some (.int .u32 a3_0):=(D5 BK271.out 0).trans rfl;have hcz30_1 : w25.cell? ⟨gb271,1,none⟩ = some (.int .u32 a3_1):=(D5 BK271.out 1).trans rfl;have hcz30_2 : w25.cell? ⟨gb271,2,none⟩ = some (.int .u32 a3_2):=(D5 BK271.out 2).trans rfl;have hcz30_3 : w25.cell? ⟨gb271,3,none⟩ = some (.int .u32 a3_3):=(D5 BK271.out 3).trans rfl;have hfz30_0:=blk_frozen BK271.out 0;have hfz30_1:=blk_frozen BK271.out 1;have hfz30_2:=blk_frozen BK271.out 2;have hfz30_3:=blk_frozen BK271.out 3)|((with_reducible refine gate_callee (f:=11) rfl ?_);refine goesL_ (some 56) rfl rfl Try.func11 (by kernel_rfl) rfl #[.int .i64 (wrap64 (1 + t273)),.agg #[.int .u32 a3_0,.int .u32 a3_1,.int .u32 a3_2,.int .u32 a3_3]] rfl (by (try simp only [List.map_toArray,List.map_cons,List.map_nil]);first|done|rfl|(simp only [List.length_drop,List.length_take];rfl)) ?_;(with_reducible refine (signature_Sign.calls k (wrap64 (1 + t273)) a3_0 a3_1 a3_2 a3_3 t286 t287 t288 _ A11.out).mono ?_);rintro e w31 ⟨rfl,hb⟩;refine ⟨_,rfl,?_⟩;have n0_:=AK (D6 (g:=gb271) (o:=.cells #[.int .u32 a3_0,.int .u32 a3_1,.int .u32 a3_2,.int .u32 a3_3] 24 (0,0)) (by (with_reducible repeat (first|refine D1 ?_ _|refine D2 ?_|refine D3 ?_ _));refine blk_far ?_ NB271_285.out _;(with_reducible repeat (first|refine D1 ?_ _|refine D2 ?_|refine D3 ?_ _));refine blk_far ?_ NB271_285.out _;(with_reducible repeat (first|refine D1 ?_ _|refine D2 ?_|refine D3 ?_ _));exact BK271.out) hb);have n1_:=AK (D6 (g:=gb272) (o:=.cells #[.int .i64 a4_0,.int .i64 a4_1] 26 (0,0)) (by (with_reducible repeat (first|refine D1 ?_ _|refine D2 ?_|refine D3 ?_ _));refine blk_far ?_ NB272_285.out _;(with_reducible repeat (first|refine D1 ?_ _|refine D2 ?_|refine D3 ?_ _));refine blk_far ?_ NB272_285.out _;(with_reducible repeat (first|refine D1 ?_ _|refine D2 ?_|refine D3 ?_ _));exact BK272.out) hb);have n2_:=AK (D6 (g:=gb281) (o:=.cells #[.int .i64 t278,.int .i64 t279] 26 (0,0)) (by (with_reducible repeat (first|refine D1 ?_ _|refine D2 ?_|refine D3 ?_ _));refine blk_far ?_ NB281_285.out _;(with_reducible repeat (first|refine D1 ?_ _|refine D2 ?_|refine D3 ?_ _));refine blk_far ?_ NB281_285.out _;(with_reducible repeat (first|refine D1 ?_ _|refine D2 ?_|refine D3 ?_ _));exact BK281.out) hb);have n3_:=AK (D6 (g:=gb285) (o:=.cells #[.int .i64 t282,.int .i64 t283] 26 (0,0)) (by (with_reducible repeat (first|refine D1 ?_ _|refine D2 ?_|refine D3 ?_ _));refine blk_put (cs:=#[.int .i64 t282,.int .i64 0]) ?_ 1 _ rfl;(with_reducible repeat (first|refine D1 ?_ _|refine D2 ?_|refine D3 ?_ _));refine blk_put (cs:=#[.int .i64 0,.int .i64 0]) ?_ 0 _ rfl;(with_reducible repeat (first|refine D1 ?_ _|refine D2 ?_|refine D3 ?_ _));exact BK285.out) hb);have n4_:=AK (below_step (by repeat (first|(with_reducible first|exact HB.out|apply below_alloc|apply D7|apply below_drew1|refine D4 ?_ GE271.out|refine D4 ?_ GE272.out|refine D4 ?_ GE281.out|refine D4 ?_ GE285.out)|exact HB.out)) hb);clear BK271;clear BK272;clear BK281;clear BK285;clear HB;have BK271:=n0_;have BK272:=n1_;have BK281:=n2_;have BK285:=n3_;have HB:=n4_;clear n0_ n1_ n2_ n3_ n4_;(try clear hb);(try clear hb2);(try clear hk);(try clear hi))|((with_reducible refine gate_dst (N:=20) rfl ?_);refine box_event ?hg (N:=20) ?hd (cs:=#[.int .i64 0,.int .i64 0]) (t:=26) ?hr ?_;(case hd => rfl);(case hg => rfl);(case hr => first|(go_simp;done)|(go_simp;rfl));intro gb289 hg w32 hbox hb;have n0_:=AK (D6 (g:=gb271) (o:=.cells #[.int .u32 a3_0,.int .u32 a3_1,.int .u32 a3_2,.int .u32 a3_3] 24 (0,0)) (by (with_reducible repeat (first|refine D1 ?_ _|refine D2 ?_|refine D3 ?_ _));exact BK271.out) hb);have n1_:=AK (D6 (g:=gb272) (o:=.cells #[.int .i64 a4_0,.int .i64 a4_1] 26 (0,0)) (by (with_reducible repeat (first|refine D1 ?_ _|refine D2 ?_|refine D3 ?_ _));exact BK272.out) hb);have n2_:=AK (D6 (g:=gb281) (o:=.cells #[.int .i64 t278,.int .i64 t279] 26 (0,0)) (by (with_reducible repeat (first|refine D1 ?_ _|refine D2 ?_|refine D3 ?_ _));exact BK281.out) hb);have n3_:=AK (D6 (g:=gb285) (o:=.cells #[.int .i64 t282,.int .i64 t283] 26 (0,0)) (by (with_reducible repeat (first|refine D1 ?_ _|refine D2 ?_|refine D3 ?_ _));exact BK285.out) hb);have n4_:=AK (below_step (by repeat (first|(with_reducible first|exact HB.out|apply below_alloc|apply D7|apply below_drew1|refine D4 ?_ GE271.out|refine D4 ?_ GE272.out|refine D4 ?_ GE281.out|refine D4 ?_ GE285.out)|exact HB.out)) hb);have n5_:=AK (hbox);have n6_:=AK ((by rw [hg];exact (below_size (by repeat (first|(with_reducible first|exact HB.out|apply below_alloc|apply D7|apply below_drew1|refine D4 ?_ GE271.out|refine D4 ?_ GE272.out|refine D4 ?_ GE281.out|refine D4 ?_ GE285.out)|exact HB.out))) : w.heap.size ≤ gb289));have n7_:=AK ((by rw [hg];exact (below_size (by repeat (first|(with_reducible first|exact HB.out|apply below_alloc|apply D7|apply below_drew1|refine D4 ?_ GE271.out|refine D4 ?_ GE272.out|refine D4 ?_ GE281.out|refine D4 ?_ GE285.out)|exact HB.out))) : w.heap.size ≤ gb289));have n8_:=AK ((by rw [hg];exact Nat.ne_of_lt (blk_lt (g:=gb271) (o:=.cells #[.int .u32 a3_0,.int .u32 a3_1,.int .u32 a3_2,.int .u32 a3_3] 24 (0,0)) (by (with_reducible repeat (first|refine D1 ?_ _|refine D2 ?_|refine D3 ?_ _));exact BK271.out)) : gb271 ≠ gb289));have n9_:=AK ((by rw [hg];exact Nat.ne_of_gt (blk_lt (g:=gb271) (o:=.cells #[.int .u32 a3_0,.int .u32 a3_1,.int .u32 a3_2,.int .u32 a3_3] 24 (0,0)) (by (with_reducible repeat (first|refine D1 ?_ _|refine D2 ?_|refine D3 ?_ _));exact BK271.out)) : gb289 ≠ gb271));have n10_:=AK ((by rw [hg];exact Nat.ne_of_lt (blk_lt (g:=gb272) (o:=.cells #[.int .i64 a4_0,.int .i64 a4_1] 26 (0,0)) (by (with_reducible repeat (first|refine D1 ?_ _|refine D2 ?_|refine D3 ?_ _));exact BK272.out)) : gb272 ≠ gb289));have n11_:=AK ((by rw [hg];exact Nat.ne_of_gt (blk_lt (g:=gb272) (o:=.cells #[.int .i64 a4_0,.int .i64 a4_1] 26 (0,0)) (by (with_reducible repeat (first|refine D1 ?_ _|refine D2 ?_|refine D3 ?_ _));exact BK272.out)) : gb289 ≠ gb272));have n12_:=AK ((by rw [hg];exact Nat.ne_of_lt (blk_lt (g:=gb281) (o:=.cells #[.int .i64 t278,.int .i64 t279] 26 (0,0)) (by (with_reducible repeat (first|refine D1 ?_ _|refine D2 ?_|refine D3 ?_ _));exact BK281.out)) : gb281 ≠ gb289));have n13_:=AK ((by rw [hg];exact Nat.ne_of_gt (blk_lt (g:=gb281) (o:=.cells #[.int .i64 t278,.int .i64 t279] 26 (0,0)) (by (with_reducible repeat (first|refine D1 ?_ _|refine D2 ?_|refine D3 ?_ _));exact BK281.out)) : gb289 ≠ gb281));have n14_:=AK ((by rw [hg];exact Nat.ne_of_lt (blk_lt (g:=gb285) (o:=.cells #[.int .i64 t282,.int .i64 t283] 26 (0,0)) (by (with_reducible repeat (first|refine D1 ?_ _|refine D2 ?_|refine D3 ?_ _));exact BK285.out)) : gb285 ≠ gb289));have n15_:=AK ((by rw [hg];exact Nat.ne_of_gt (blk_lt (g:=gb285) (o:=.cells #[.int .i64 t282,.int .i64 t283] 26 (0,0)) (by (with_reducible repeat (first|refine D1 ?_ _|refine D2 ?_|refine D3 ?_ _));exact BK285.out)) : gb289 ≠ gb285));clear BK271;clear BK272;clear BK281;clear BK285;clear HB;have BK271:=n0_;have BK272:=n1_;have BK281:=n2_;have BK285:=n3_;have HB:=n4_;have BK289:=n5_;have GW289:=n6_;have GE289:=n7_;have NB271_289:=n8_;have NB289_271:=n9_;have NB272_289:=n10_;have NB289_272:=n11_;have NB281_289:=n12_;have NB289_281:=n13_;have NB285_289:=n14_;have NB289_285:=n15_;clear n0_ n1_ n2_ n3_ n4_ n5_ n6_ n7_ n8_ n9_ n10_ n11_ n12_ n13_ n14_ n15_;clear hb hbox hg;have hnb33:=NB289_271.out;have hnc33:=NB271_289.out;have hnb34:=NB289_272.out;have hnc34:=NB272_289.out;have hnb35:=NB289_281.out;have hnc35:=NB281_289.out;have hnb36:=NB289_285.out;have hnc36:=NB285_289.out;have hcz37_0 : w32.cell? ⟨gb289,0,none⟩ = some (.int .i64 0):=(D5 BK289.out 0).trans rfl;have hcz37_1 : w32.cell? ⟨gb289,1,none⟩ = some (.int .i64 0):=(D5 BK289.out 1).trans rfl;have hfz37_0:=blk_frozen BK289.out 0;have hfz37_1:=blk_frozen BK289.out 1;have hcz38_0 : w32.cell? ⟨gb271,0,none⟩ = some (.int .u32 a3_0):=(D5 BK271.out 0).trans rfl;have hcz38_1 : w32.cell? ⟨gb271,1,none⟩ = some (.int .u32 a3_1):=(D5 BK271.out 1).trans rfl;have hcz38_2 : w32.cell? ⟨gb271,2,none⟩ = some (.int .u32 a3_2):=(D5 BK271.out 2).trans rfl;have hcz38_3 : w32.cell? ⟨gb271,3,none⟩ = some (.int .u32 a3_3):=(D5 BK271.out 3).trans rfl;have hfz38_0:=blk_frozen BK271.out 0;have hfz38_1:=blk_frozen BK271.out 1;have hfz38_2:=blk_frozen BK271.out 2;have hfz38_3:=blk_frozen BK271.out 3)|((with_reducible refine gate_callee (f:=12) rfl ?_);refine goesL_ (some 62) rfl rfl Try.func12 (by kernel_rfl) rfl #[.int .i64 (wrap64 (1 + t273)),.agg #[.int .u32 a3_0,.int .u32 a3_1,.int .u32 a3_2,.int .u32 a3_3]] rfl (by (try simp only [List.map_toArray,List.map_cons,List.map_nil]);first|done|rfl|(simp only [List.length_drop,List.length_take];rfl)) ?_;(with_reducible refine (awardingbodyref41_Sign.calls k (wrap64 (1 + t273)) a3_0 a3_1 a3_2 a3_3 t290 t291 t292 _ A12.out).mono ?_);rintro e w39 ⟨rfl,hb⟩;refine ⟨_,rfl,?_⟩;have n0_:=AK (D6 (g:=gb271) (o:=.cells #[.int .u32 a3_0,.int .u32 a3_1,.int .u32 a3_2,.int .u32 a3_3] 24 (0,0)) (by (with_reducible repeat (first|refine D1 ?_ _|refine D2 ?_|refine D3 ?_ _));refine blk_far ?_ NB271_289.out _;(with_reducible repeat (first|refine D1 ?_ _|refine D2 ?_|refine D3 ?_ _));refine blk_far ?_ NB271_289.out _;(with_reducible repeat (first|refine D1 ?_ _|refine D2 ?_|refine D3 ?_ _));exact BK271.out) hb);have n1_:=AK (D6 (g:=gb272) (o:=.cells #[.int .i64 a4_0,.int .i64 a4_1] 26 (0,0)) (by (with_reducible repeat (first|refine D1 ?_ _|refine D2 ?_|refine D3 ?_ _));refine blk_far ?_ NB272_289.out _;(with_reducible repeat (first|refine D1 ?_ _|refine D2 ?_|refine D3 ?_ _));refine blk_far ?_ NB272_289.out _;(with_reducible repeat (first|refine D1 ?_ _|refine D2 ?_|refine D3 ?_ _));exact BK272.out) hb);have n2_:=AK (D6 (g:=gb281) (o:=.cells #[.int .i64 t278,.int .i64 t279] 26 (0,0)) (by (with_reducible repeat (first|refine D1 ?_ _|refine D2 ?_|refine D3 ?_ _));refine blk_far ?_ NB281_289.out _;(with_reducible repeat (first|refine D1 ?_ _|refine D2 ?_|refine D3 ?_ _));refine blk_far ?_ NB281_289.out _;(with_reducible repeat (first|refine D1 ?_ _|refine D2 ?_|refine D3 ?_ _));exact BK281.out) hb);have n3_:=AK (D6 (g:=gb285) (o:=.cells #[.int .i64 t282,.int .i64 t283] 26 (0,0)) (by (with_reducible repeat (first|refine D1 ?_ _|refine D2 ?_|refine D3 ?_ _));refine blk_far ?_ NB285_289.out _;(with_reducible repeat (first|refine D1 ?_ _|refine D2 ?_|refine D3 ?_ _));refine blk_far ?_ NB285_289.out _;(with_reducible repeat (first|refine D1 ?_ _|refine D2 ?_|refine D3 ?_ _));exact BK285.out) hb);have n4_:=AK (D6 (g:=gb289) (o:=.cells #[.int .i64 t286,.int .i64 t287] 26 (0,0)) (by (with_reducible repeat (first|refine D1 ?_ _|refine D2 ?_|refine D3 ?_ _));refine blk_put (cs:=#[.int .i64 t286,.int .i64 0]) ?_ 1 _ rfl;(with_reducible repeat (first|refine D1 ?_ _|refine D2 ?_|refine D3 ?_ _));refine blk_put (cs:=#[.int .i64 0,.int .i64 0]) ?_ 0 _ rfl;(with_reducible repeat (first|refine D1 ?_ _|refine D2 ?_|refine D3 ?_ _));exact BK289.out) hb);have n5_:=AK (below_step (by repeat (first|(with_reducible first|exact HB.out|apply below_alloc|apply D7|apply below_drew1|refine D4 ?_ GE271.out|refine D4 ?_ GE272.out|refine D4 ?_ GE281.out|refine D4 ?_ GE285.out|refine D4 ?_ GE289.out)|exact HB.out)) hb);clear BK271;clear BK272;clear BK281;clear BK285;clear BK289;clear HB;have BK271:=n0_;have BK272:=n1_;have BK281:=n2_;have BK285:=n3_;have BK289:=n4_;have HB:=n5_;clear n0_ n1_ n2_ n3_ n4_ n5_;(try clear hb);(try clear hb2);(try clear hk);(try clear hi))|((with_reducible refine gate_dst (N:=22) rfl ?_);refine box_event ?hg (N:=22) ?hd (cs:=#[.int .i64 0,.int .i64 0]) (t:=26) ?hr ?_;(case hd => rfl);(case hg => rfl);(case hr => first|(go_simp;done)|(go_simp;rfl));intro gb293 hg w40 hbox hb;have n0_:=AK (D6 (g:=gb271) (o:=.cells #[.int .u32 a3_0,.int .u32 a3_1,.int .u32 a3_2,.int .u32 a3_3] 24 (0,0)) (by (with_reducible repeat (first|refine D1 ?_ _|refine D2 ?_|refine D3 ?_ _));exact BK271.out) hb);have n1_:=AK (D6 (g:=gb272) (o:=.cells #[.int .i64 a4_0,.int .i64 a4_1] 26 (0,0)) (by (with_reducible repeat (first|refine D1 ?_ _|refine D2 ?_|refine D3 ?_ _));exact BK272.out) hb);have n2_:=AK (D6 (g:=gb281) (o:=.cells #[.int .i64 t278,.int .i64 t279] 26 (0,0)) (by (with_reducible repeat (first|refine D1 ?_ _|refine D2 ?_|refine D3 ?_ _));exact BK281.out) hb);have n3_:=AK (D6 (g:=gb285) (o:=.cells #[.int .i64 t282,.int .i64 t283] 26 (0,0)) (by (with_reducible repeat (first|refine D1 ?_ _|refine D2 ?_|refine D3 ?_ _));exact BK285.out) hb);have n4_:=AK (D6 (g:=gb289) (o:=.cells #[.int .i64 t286,.int .i64 t287] 26 (0,0)) (by (with_reducible repeat (first|refine D1 ?_ _|refine D2 ?_|refine D3 ?_ _));exact BK289.out) hb);have n5_:=AK (below_step (by repeat (first|(with_reducible first|exact HB.out|apply below_alloc|apply D7|apply below_drew1|refine D4 ?_ GE271.out|refine D4 ?_ GE272.out|refine D4 ?_ GE281.out|refine D4 ?_ GE285.out|refine D4 ?_ GE289.out)|exact HB.out)) hb);have n6_:=AK (hbox);have n7_:=AK ((by rw [hg];exact (below_size (by repeat (first|(with_reducible first|exact HB.out|apply below_alloc|apply D7|apply below_drew1|refine D4 ?_ GE271.out|refine D4 ?_ GE272.out|refine D4 ?_ GE281.out|refine D4 ?_ GE285.out|refine D4 ?_ GE289.out)|exact HB.out))) : w.heap.size ≤ gb293));have n8_:=AK ((by rw [hg];exact (below_size (by repeat (first|(with_reducible first|exact HB.out|apply below_alloc|apply D7|apply below_drew1|refine D4 ?_ GE271.out|refine D4 ?_ GE272.out|refine D4 ?_ GE281.out|refine D4 ?_ GE285.out|refine D4 ?_ GE289.out)|exact HB.out))) : w.heap.size ≤ gb293));have n9_:=AK ((by rw [hg];exact Nat.ne_of_lt (blk_lt (g:=gb271) (o:=.cells #[.int .u32 a3_0,.int .u32 a3_1,.int .u32 a3_2,.int .u32 a3_3] 24 (0,0)) (by (with_reducible repeat (first|refine D1 ?_ _|refine D2 ?_|refine D3 ?_ _));exact BK271.out)) : gb271 ≠ gb293));have n10_:=AK ((by rw [hg];exact Nat.ne_of_gt (blk_lt (g:=gb271) (o:=.cells #[.int .u32 a3_0,.int .u32 a3_1,.int .u32 a3_2,.int .u32 a3_3] 24 (0,0)) (by (with_reducible repeat (first|refine D1 ?_ _|refine D2 ?_|refine D3 ?_ _));exact BK271.out)) : gb293 ≠ gb271));have n11_:=AK ((by rw [hg];exact Nat.ne_of_lt (blk_lt (g:=gb272) (o:=.cells #[.int .i64 a4_0,.int .i64 a4_1] 26 (0,0)) (by (with_reducible repeat (first|refine D1 ?_ _|refine D2 ?_|refine D3 ?_ _));exact BK272.out)) : gb272 ≠ gb293));have n12_:=AK ((by rw [hg];exact Nat.ne_of_gt (blk_lt (g:=gb272) (o:=.cells #[.int .i64 a4_0,.int .i64 a4_1] 26 (0,0)) (by (with_reducible repeat (first|refine D1 ?_ _|refine D2 ?_|refine D3 ?_ _));exact BK272.out)) : gb293 ≠ gb272));have n13_:=AK ((by rw [hg];exact Nat.ne_of_lt (blk_lt (g:=gb281) (o:=.cells #[.int .i64 t278,.int .i64 t279] 26 (0,0)) (by (with_reducible repeat (first|refine D1 ?_ _|refine D2 ?_|refine D3 ?_ _));exact BK281.out)) : gb281 ≠ gb293));have n14_:=AK ((by rw [hg];exact Nat.ne_of_gt (blk_lt (g:=gb281) (o:=.cells #[.int .i64 t278,.int .i64 t279] 26 (0,0)) (by (with_reducible repeat (first|refine D1 ?_ _|refine D2 ?_|refine D3 ?_ _));exact BK281.out)) : gb293 ≠ gb281));have n15_:=AK ((by rw [hg];exact Nat.ne_of_lt (blk_lt (g:=gb285) (o:=.cells #[.int .i64 t282,.int .i64 t283] 26 (0,0)) (by (with_reducible repeat (first|refine D1 ?_ _|refine D2 ?_|refine D3 ?_ _));exact BK285.out)) : gb285 ≠ gb293));have n16_:=AK ((by rw [hg];exact Nat.ne_of_gt (blk_lt (g:=gb285) (o:=.cells #[.int .i64 t282,.int .i64 t283] 26 (0,0)) (by (with_reducible repeat (first|refine D1 ?_ _|refine D2 ?_|refine D3 ?_ _));exact BK285.out)) : gb293 ≠ gb285));have n17_:=AK ((by rw [hg];exact Nat.ne_of_lt (blk_lt (g:=gb289) (o:=.cells #[.int .i64 t286,.int .i64 t287] 26 (0,0)) (by (with_reducible repeat (first|refine D1 ?_ _|refine D2 ?_|refine D3 ?_ _));exact BK289.out)) : gb289 ≠ gb293));have n18_:=AK ((by rw [hg];exact Nat.ne_of_gt (blk_lt (g:=gb289) (o:=.cells #[.int .i64 t286,.int .i64 t287] 26 (0,0)) (by (with_reducible repeat (first|refine D1 ?_ _|refine D2 ?_|refine D3 ?_ _));exact BK289.out)) : gb293 ≠ gb289));clear BK271;clear BK272;clear BK281;clear BK285;clear BK289;clear HB;have BK271:=n0_;have BK272:=n1_;have BK281:=n2_;have BK285:=n3_;have BK289:=n4_;have HB:=n5_;have BK293:=n6_;have GW293:=n7_;have GE293:=n8_;have NB271_293:=n9_;have NB293_271:=n10_;have NB272_293:=n11_;have NB293_272:=n12_;have NB281_293:=n13_;have NB293_281:=n14_;have NB285_293:=n15_;have NB293_285:=n16_;have NB289_293:=n17_;have NB293_289:=n18_;clear n0_ n1_ n2_ n3_ n4_ n5_ n6_ n7_ n8_ n9_ n10_ n11_ n12_ n13_ n14_ n15_ n16_ n17_ n18_;clear hb hbox hg;have hnb41:=NB293_271.out;have hnc41:=NB271_293.out;have hnb42:=NB293_272.out;have hnc42:=NB272_293.out;have hnb43:=NB293_281.out;have hnc43:=NB281_293.out;have hnb44:=NB293_285.out;have hnc44:=NB285_293.out;have hnb45:=NB293_289.out;have hnc45:=NB289_293.out;have hcz46_0 : w40.cell? ⟨gb293,0,none⟩ = some (.int .i64 0):=(D5 BK293.out 0).trans rfl;have hcz46_1 : w40.cell? ⟨gb293,1,none⟩ = some (.int .i64 0):=(D5 BK293.out 1).trans rfl;have hfz46_0:=blk_frozen BK293.out 0;have hfz46_1:=blk_frozen BK293.out 1))
 (try simp only [Act.put,Q2,Q0,Q1])
 go_cut [99] (fun v99 wc => ∃ (kq : Nat) (x99_12 : Bool),v99 = .bool x99_12 ∧ Aside0 (awardingbodylaw41_SignatureExact.j0 kq a0 a1 (wrap64 (1 + t273)) x99_12 a3_0 a3_1 a3_2 a3_3 a4_0 a4_1 t290 t291 = some r) ∧ Aside0 (kq ≤ k) ∧ Aside0 (wc.heap[gb271]? = some (.cells #[.int .u32 a3_0,.int .u32 a3_1,.int .u32 a3_2,.int .u32 a3_3] 24 (0,0))) ∧ Aside0 (wc.heap[gb272]? = some (.cells #[.int .i64 a4_0,.int .i64 a4_1] 26 (0,0))) ∧ Aside0 (wc.heap[gb281]? = some (.cells #[.int .i64 t278,.int .i64 t279] 26 (0,0))) ∧ Aside0 (wc.heap[gb285]? = some (.cells #[.int .i64 t282,.int .i64 t283] 26 (0,0))) ∧ Aside0 (wc.heap[gb289]? = some (.cells #[.int .i64 t286,.int .i64 t287] 26 (0,0))) ∧ Aside0 (wc.heap[gb293]? = some (.cells #[.int .i64 t290,.int .i64 t291] 26 (0,0))) ∧ Aside0 (Below w.heap.size w wc))
 case first =>
  have H:=HC13.out
  clear HC13
  by_cases c47 : t274 = t276
  ·rw [if_pos c47] at H
   have c47b0 : (t274 == t276) = true:=beq_iff_eq.mpr c47
   have c47b1 : (t274 != t276) = false:=bne_eq_false_iff_eq.mpr c47
   clear c47
   (first|rw [c47b0]|(simp only [i64_w,i32_w];rw [c47b0])|skip)
   by_cases c48 : t275 = t277
   ·rw [if_pos c48] at H
    have c48b0 : (t275 == t277) = true:=beq_iff_eq.mpr c48
    have c48b1 : (t275 != t277) = false:=bne_eq_false_iff_eq.mpr c48
    clear c48
    by_cases c49 : (!(t278 == t282) || (!(t279 == t283))) = true
    ·rw [if_pos c49] at H
     have c49b0 : (!(t278 == t282) || (!(t279 == t283))) = true:=c49
     clear c49
     have H':=AK H
     clear H
     have hnb50:=NB281_271.out
     have hnc50:=NB271_281.out
     have hnb51:=NB281_272.out
     have hnc51:=NB272_281.out
     have hnb52:=NB281_285.out
     have hnc52:=NB285_281.out
     have hnb53:=NB281_289.out
     have hnc53:=NB289_281.out
     have hnb54:=NB281_293.out
     have hnc54:=NB293_281.out
     have hcz55_0 : w40.cell? ⟨gb281,0,none⟩ = some (.int .i64 t278):=(D5 BK281.out 0).trans rfl
     have hcz55_1 : w40.cell? ⟨gb281,1,none⟩ = some (.int .i64 t279):=(D5 BK281.out 1).trans rfl
     have hfz55_0:=blk_frozen BK281.out 0
     have hfz55_1:=blk_frozen BK281.out 1
     have hnb56:=NB285_271.out
     have hnc56:=NB271_285.out
     have hnb57:=NB285_272.out
     have hnc57:=NB272_285.out
     have hnb58:=NB285_289.out
     have hnc58:=NB289_285.out
     have hnb59:=NB285_293.out
     have hnc59:=NB293_285.out
     have hcz60_0 : w40.cell? ⟨gb285,0,none⟩ = some (.int .i64 t282):=(D5 BK285.out 0).trans rfl
     have hcz60_1 : w40.cell? ⟨gb285,1,none⟩ = some (.int .i64 t283):=(D5 BK285.out 1).trans rfl
     have hfz60_0:=blk_frozen BK285.out 0
     have hfz60_1:=blk_frozen BK285.out 1
     go_wp2
     go_meet
     case rel => exact ⟨_,(true),(by first|rfl|(simp;done)|(simp [*];done)),H',⟨by first|omega|exact Nat.le_refl _⟩,⟨by (with_reducible repeat (first|refine D1 ?_ _|refine D2 ?_|refine D3 ?_ _));refine blk_far ?_ NB271_293.out _;(with_reducible repeat (first|refine D1 ?_ _|refine D2 ?_|refine D3 ?_ _));refine blk_far ?_ NB271_293.out _;(with_reducible repeat (first|refine D1 ?_ _|refine D2 ?_|refine D3 ?_ _));exact BK271.out⟩,⟨by (with_reducible repeat (first|refine D1 ?_ _|refine D2 ?_|refine D3 ?_ _));refine blk_far ?_ NB272_293.out _;(with_reducible repeat (first|refine D1 ?_ _|refine D2 ?_|refine D3 ?_ _));refine blk_far ?_ NB272_293.out _;(with_reducible repeat (first|refine D1 ?_ _|refine D2 ?_|refine D3 ?_ _));exact BK272.out⟩,⟨by (with_reducible repeat (first|refine D1 ?_ _|refine D2 ?_|refine D3 ?_ _));refine blk_far ?_ NB281_293.out _;(with_reducible repeat (first|refine D1 ?_ _|refine D2 ?_|refine D3 ?_ _));refine blk_far ?_ NB281_293.out _;(with_reducible repeat (first|refine D1 ?_ _|refine D2 ?_|refine D3 ?_ _));exact BK281.out⟩,⟨by (with_reducible repeat (first|refine D1 ?_ _|refine D2 ?_|refine D3 ?_ _));refine blk_far ?_ NB285_293.out _;(with_reducible repeat (first|refine D1 ?_ _|refine D2 ?_|refine D3 ?_ _));refine blk_far ?_ NB285_293.out _;(with_reducible repeat (first|refine D1 ?_ _|refine D2 ?_|refine D3 ?_ _));exact BK285.out⟩,⟨by (with_reducible repeat (first|refine D1 ?_ _|refine D2 ?_|refine D3 ?_ _));refine blk_far ?_ NB289_293.out _;(with_reducible repeat (first|refine D1 ?_ _|refine D2 ?_|refine D3 ?_ _));refine blk_far ?_ NB289_293.out _;(with_reducible repeat (first|refine D1 ?_ _|refine D2 ?_|refine D3 ?_ _));exact BK289.out⟩,⟨by (with_reducible repeat (first|refine D1 ?_ _|refine D2 ?_|refine D3 ?_ _));refine blk_put (cs:=#[.int .i64 t290,.int .i64 0]) ?_ 1 _ rfl;(with_reducible repeat (first|refine D1 ?_ _|refine D2 ?_|refine D3 ?_ _));refine blk_put (cs:=#[.int .i64 0,.int .i64 0]) ?_ 0 _ rfl;(with_reducible repeat (first|refine D1 ?_ _|refine D2 ?_|refine D3 ?_ _));exact BK293.out⟩,⟨by repeat (first|(with_reducible first|exact HB.out|apply below_alloc|apply D7|apply below_drew1|refine D4 ?_ GE271.out|refine D4 ?_ GE272.out|refine D4 ?_ GE281.out|refine D4 ?_ GE285.out|refine D4 ?_ GE289.out|refine D4 ?_ GE293.out)|exact HB.out)⟩⟩
    ·rw [if_neg c49] at H
     have c49b0 : (!(t278 == t282) || (!(t279 == t283))) = false:=by simpa using c49
     clear c49
     by_cases c61 : t280 = t284
     ·rw [if_pos c61] at H
      have c61b0 : (t280 == t284) = true:=beq_iff_eq.mpr c61
      have c61b1 : (t280 != t284) = false:=bne_eq_false_iff_eq.mpr c61
      clear c61
      by_cases c62 : (!(t286 == t290) || (!(t287 == t291))) = true
      ·rw [if_pos c62] at H
       have c62b0 : (!(t286 == t290) || (!(t287 == t291))) = true:=c62
       clear c62
       have H':=AK H
       clear H
       have hnb63:=NB281_271.out
       have hnc63:=NB271_281.out
       have hnb64:=NB281_272.out
       have hnc64:=NB272_281.out
       have hnb65:=NB281_285.out
       have hnc65:=NB285_281.out
       have hnb66:=NB281_289.out
       have hnc66:=NB289_281.out
       have hnb67:=NB281_293.out
       have hnc67:=NB293_281.out
       have hcz68_0 : w40.cell? ⟨gb281,0,none⟩ = some (.int .i64 t278):=(D5 BK281.out 0).trans rfl
       have hcz68_1 : w40.cell? ⟨gb281,1,none⟩ = some (.int .i64 t279):=(D5 BK281.out 1).trans rfl
       have hfz68_0:=blk_frozen BK281.out 0
       have hfz68_1:=blk_frozen BK281.out 1
       have hnb69:=NB285_271.out
       have hnc69:=NB271_285.out
       have hnb70:=NB285_272.out
       have hnc70:=NB272_285.out
       have hnb71:=NB285_289.out
       have hnc71:=NB289_285.out
       have hnb72:=NB285_293.out
       have hnc72:=NB293_285.out
       have hcz73_0 : w40.cell? ⟨gb285,0,none⟩ = some (.int .i64 t282):=(D5 BK285.out 0).trans rfl
       have hcz73_1 : w40.cell? ⟨gb285,1,none⟩ = some (.int .i64 t283):=(D5 BK285.out 1).trans rfl
       have hfz73_0:=blk_frozen BK285.out 0
       have hfz73_1:=blk_frozen BK285.out 1
       have hnb74:=NB289_271.out
       have hnc74:=NB271_289.out
       have hnb75:=NB289_272.out
       have hnc75:=NB272_289.out
       have hnb76:=NB289_293.out
       have hnc76:=NB293_289.out
       have hcz77_0 : w40.cell? ⟨gb289,0,none⟩ = some (.int .i64 t286):=(D5 BK289.out 0).trans rfl
       have hcz77_1 : w40.cell? ⟨gb289,1,none⟩ = some (.int .i64 t287):=(D5 BK289.out 1).trans rfl
       have hfz77_0:=blk_frozen BK289.out 0
       have hfz77_1:=blk_frozen BK289.out 1
       have hnb78:=NB293_271.out
       have hnc78:=NB271_293.out
       have hnb79:=NB293_272.out
       have hnc79:=NB272_293.out
       have hcz80_0 : w40.cell? ⟨gb293,0,none⟩ = some (.int .i64 0):=(D5 BK293.out 0).trans rfl
       have hcz80_1 : w40.cell? ⟨gb293,1,none⟩ = some (.int .i64 0):=(D5 BK293.out 1).trans rfl
       have hfz80_0:=blk_frozen BK293.out 0
       have hfz80_1:=blk_frozen BK293.out 1
       go_wp2
       go_meet
       case rel => exact ⟨_,(true),(by first|rfl|(simp;done)|(simp [*];done)),H',⟨by first|omega|exact Nat.le_refl _⟩,⟨by (with_reducible repeat (first|refine D1 ?_ _|refine D2 ?_|refine D3 ?_ _));refine blk_far ?_ NB271_293.out _;(with_reducible repeat (first|refine D1 ?_ _|refine D2 ?_|refine D3 ?_ _));refine blk_far ?_ NB271_293.out _;(with_reducible repeat (first|refine D1 ?_ _|refine D2 ?_|refine D3 ?_ _));exact BK271.out⟩,⟨by (with_reducible repeat (first|refine D1 ?_ _|refine D2 ?_|refine D3 ?_ _));refine blk_far ?_ NB272_293.out _;(with_reducible repeat (first|refine D1 ?_ _|refine D2 ?_|refine D3 ?_ _));refine blk_far ?_ NB272_293.out _;(with_reducible repeat (first|refine D1 ?_ _|refine D2 ?_|refine D3 ?_ _));exact BK272.out⟩,⟨by (with_reducible repeat (first|refine D1 ?_ _|refine D2 ?_|refine D3 ?_ _));refine blk_far ?_ NB281_293.out _;(with_reducible repeat (first|refine D1 ?_ _|refine D2 ?_|refine D3 ?_ _));refine blk_far ?_ NB281_293.out _;(with_reducible repeat (first|refine D1 ?_ _|refine D2 ?_|refine D3 ?_ _));exact BK281.out⟩,⟨by (with_reducible repeat (first|refine D1 ?_ _|refine D2 ?_|refine D3 ?_ _));refine blk_far ?_ NB285_293.out _;(with_reducible repeat (first|refine D1 ?_ _|refine D2 ?_|refine D3 ?_ _));refine blk_far ?_ NB285_293.out _;(with_reducible repeat (first|refine D1 ?_ _|refine D2 ?_|refine D3 ?_ _));exact BK285.out⟩,⟨by (with_reducible repeat (first|refine D1 ?_ _|refine D2 ?_|refine D3 ?_ _));refine blk_far ?_ NB289_293.out _;(with_reducible repeat (first|refine D1 ?_ _|refine D2 ?_|refine D3 ?_ _));refine blk_far ?_ NB289_293.out _;(with_reducible repeat (first|refine D1 ?_ _|refine D2 ?_|refine D3 ?_ _));exact BK289.out⟩,⟨by (with_reducible repeat (first|refine D1 ?_ _|refine D2 ?_|refine D3 ?_ _));refine blk_put (cs:=#[.int .i64 t290,.int .i64 0]) ?_ 1 _ rfl;(with_reducible repeat (first|refine D1 ?_ _|refine D2 ?_|refine D3 ?_ _));refine blk_put (cs:=#[.int .i64 0,.int .i64 0]) ?_ 0 _ rfl;(with_reducible repeat (first|refine D1 ?_ _|refine D2 ?_|refine D3 ?_ _));exact BK293.out⟩,⟨by repeat (first|(with_reducible first|exact HB.out|apply below_alloc|apply D7|apply below_drew1|refine D4 ?_ GE271.out|refine D4 ?_ GE272.out|refine D4 ?_ GE281.out|refine D4 ?_ GE285.out|refine D4 ?_ GE289.out|refine D4 ?_ GE293.out)|exact HB.out)⟩⟩
      ·rw [if_neg c62] at H
       have c62b0 : (!(t286 == t290) || (!(t287 == t291))) = false:=by simpa using c62
       clear c62
       by_cases c81 : t288 = t292
       ·rw [if_pos c81] at H
        have c81b0 : (t288 == t292) = true:=beq_iff_eq.mpr c81
        have c81b1 : (t288 != t292) = false:=bne_eq_false_iff_eq.mpr c81
        clear c81
        replace H:=Option.bind_eq_some_iff.mp H
        obtain ⟨t294,A820,H⟩:=H
        replace H : ((awardingbodyref41_Valid.f a2).bind fun t295 => (awardingbodylaw41_SignatureExact.j0 k a0 a1 (wrap64 (1 + t273)) (t294 != t295) a3_0 a3_1 a3_2 a3_3 a4_0 a4_1 t290 t291)) = some r:=H
        have A82:=AK A820
        clear A820
        replace H:=Option.bind_eq_some_iff.mp H
        obtain ⟨t295,A830,H⟩:=H
        replace H : (awardingbodylaw41_SignatureExact.j0 k a0 a1 (wrap64 (1 + t273)) (t294 != t295) a3_0 a3_1 a3_2 a3_3 a4_0 a4_1 t290 t291) = some r:=H
        have A83:=AK A830
        clear A830
        have H':=AK H
        clear H
        have hnb84:=NB281_271.out
        have hnc84:=NB271_281.out
        have hnb85:=NB281_272.out
        have hnc85:=NB272_281.out
        have hnb86:=NB281_285.out
        have hnc86:=NB285_281.out
        have hnb87:=NB281_289.out
        have hnc87:=NB289_281.out
        have hnb88:=NB281_293.out
        have hnc88:=NB293_281.out
        have hcz89_0 : w40.cell? ⟨gb281,0,none⟩ = some (.int .i64 t278):=(D5 BK281.out 0).trans rfl
        have hcz89_1 : w40.cell? ⟨gb281,1,none⟩ = some (.int .i64 t279):=(D5 BK281.out 1).trans rfl
        have hfz89_0:=blk_frozen BK281.out 0
        have hfz89_1:=blk_frozen BK281.out 1
        have hnb90:=NB285_271.out
        have hnc90:=NB271_285.out
        have hnb91:=NB285_272.out
        have hnc91:=NB272_285.out
        have hnb92:=NB285_289.out
        have hnc92:=NB289_285.out
        have hnb93:=NB285_293.out
        have hnc93:=NB293_285.out
        have hcz94_0 : w40.cell? ⟨gb285,0,none⟩ = some (.int .i64 t282):=(D5 BK285.out 0).trans rfl
        have hcz94_1 : w40.cell? ⟨gb285,1,none⟩ = some (.int .i64 t283):=(D5 BK285.out 1).trans rfl
        have hfz94_0:=blk_frozen BK285.out 0
        have hfz94_1:=blk_frozen BK285.out 1
        have hnb95:=NB289_271.out
        have hnc95:=NB271_289.out
        have hnb96:=NB289_272.out
        have hnc96:=NB272_289.out
        have hnb97:=NB289_293.out
        have hnc97:=NB293_289.out
        have hcz98_0 : w40.cell? ⟨gb289,0,none⟩ = some (.int .i64 t286):=(D5 BK289.out 0).trans rfl
        have hcz98_1 : w40.cell? ⟨gb289,1,none⟩ = some (.int .i64 t287):=(D5 BK289.out 1).trans rfl
        have hfz98_0:=blk_frozen BK289.out 0
        have hfz98_1:=blk_frozen BK289.out 1
        have hnb99:=NB293_271.out
        have hnc99:=NB271_293.out
        have hnb100:=NB293_272.out
        have hnc100:=NB272_293.out
        have hcz101_0 : w40.cell? ⟨gb293,0,none⟩ = some (.int .i64 0):=(D5 BK293.out 0).trans rfl
        have hcz101_1 : w40.cell? ⟨gb293,1,none⟩ = some (.int .i64 0):=(D5 BK293.out 1).trans rfl
        have hfz101_0:=blk_frozen BK293.out 0
        have hfz101_1:=blk_frozen BK293.out 1
        go_wp2_with (first|(go_at_call 13;(with_reducible refine (signature_Valid.calls a2 t294 _ A82.out).mono ?_);rintro e w' ⟨rfl,⟨nd,rfl⟩⟩)|(go_at_call 14;(with_reducible refine (awardingbodyref41_Valid.calls a2 t295 _ A83.out).mono ?_);rintro e w' ⟨rfl,⟨nd,rfl⟩⟩))
        go_meet
        case rel => exact ⟨_,((t294 != t295)),(by first|rfl|(simp;done)|(simp [*];done)),H',⟨by first|omega|exact Nat.le_refl _⟩,⟨by (with_reducible repeat (first|refine D1 ?_ _|refine D2 ?_|refine D3 ?_ _));refine blk_far ?_ NB271_293.out _;(with_reducible repeat (first|refine D1 ?_ _|refine D2 ?_|refine D3 ?_ _));refine blk_far ?_ NB271_293.out _;(with_reducible repeat (first|refine D1 ?_ _|refine D2 ?_|refine D3 ?_ _));exact BK271.out⟩,⟨by (with_reducible repeat (first|refine D1 ?_ _|refine D2 ?_|refine D3 ?_ _));refine blk_far ?_ NB272_293.out _;(with_reducible repeat (first|refine D1 ?_ _|refine D2 ?_|refine D3 ?_ _));refine blk_far ?_ NB272_293.out _;(with_reducible repeat (first|refine D1 ?_ _|refine D2 ?_|refine D3 ?_ _));exact BK272.out⟩,⟨by (with_reducible repeat (first|refine D1 ?_ _|refine D2 ?_|refine D3 ?_ _));refine blk_far ?_ NB281_293.out _;(with_reducible repeat (first|refine D1 ?_ _|refine D2 ?_|refine D3 ?_ _));refine blk_far ?_ NB281_293.out _;(with_reducible repeat (first|refine D1 ?_ _|refine D2 ?_|refine D3 ?_ _));exact BK281.out⟩,⟨by (with_reducible repeat (first|refine D1 ?_ _|refine D2 ?_|refine D3 ?_ _));refine blk_far ?_ NB285_293.out _;(with_reducible repeat (first|refine D1 ?_ _|refine D2 ?_|refine D3 ?_ _));refine blk_far ?_ NB285_293.out _;(with_reducible repeat (first|refine D1 ?_ _|refine D2 ?_|refine D3 ?_ _));exact BK285.out⟩,⟨by (with_reducible repeat (first|refine D1 ?_ _|refine D2 ?_|refine D3 ?_ _));refine blk_far ?_ NB289_293.out _;(with_reducible repeat (first|refine D1 ?_ _|refine D2 ?_|refine D3 ?_ _));refine blk_far ?_ NB289_293.out _;(with_reducible repeat (first|refine D1 ?_ _|refine D2 ?_|refine D3 ?_ _));exact BK289.out⟩,⟨by (with_reducible repeat (first|refine D1 ?_ _|refine D2 ?_|refine D3 ?_ _));refine blk_put (cs:=#[.int .i64 t290,.int .i64 0]) ?_ 1 _ rfl;(with_reducible repeat (first|refine D1 ?_ _|refine D2 ?_|refine D3 ?_ _));refine blk_put (cs:=#[.int .i64 0,.int .i64 0]) ?_ 0 _ rfl;(with_reducible repeat (first|refine D1 ?_ _|refine D2 ?_|refine D3 ?_ _));exact BK293.out⟩,⟨by repeat (first|(with_reducible first|exact HB.out|apply below_alloc|apply D7|apply below_drew1|refine D4 ?_ GE271.out|refine D4 ?_ GE272.out|refine D4 ?_ GE281.out|refine D4 ?_ GE285.out|refine D4 ?_ GE289.out|refine D4 ?_ GE293.out)|exact HB.out)⟩⟩
       ·rw [if_neg c81] at H
        have c81b0 : (t288 == t292) = false:=beq_eq_false_iff_ne.mpr c81
        have c81b1 : (t288 != t292) = true:=bne_iff_ne.mpr c81
        have H':=AK H
        clear H
        have hnb102:=NB281_271.out
        have hnc102:=NB271_281.out
        have hnb103:=NB281_272.out
        have hnc103:=NB272_281.out
        have hnb104:=NB281_285.out
        have hnc104:=NB285_281.out
        have hnb105:=NB281_289.out
        have hnc105:=NB289_281.out
        have hnb106:=NB281_293.out
        have hnc106:=NB293_281.out
        have hcz107_0 : w40.cell? ⟨gb281,0,none⟩ = some (.int .i64 t278):=(D5 BK281.out 0).trans rfl
        have hcz107_1 : w40.cell? ⟨gb281,1,none⟩ = some (.int .i64 t279):=(D5 BK281.out 1).trans rfl
        have hfz107_0:=blk_frozen BK281.out 0
        have hfz107_1:=blk_frozen BK281.out 1
        have hnb108:=NB285_271.out
        have hnc108:=NB271_285.out
        have hnb109:=NB285_272.out
        have hnc109:=NB272_285.out
        have hnb110:=NB285_289.out
        have hnc110:=NB289_285.out
        have hnb111:=NB285_293.out
        have hnc111:=NB293_285.out
        have hcz112_0 : w40.cell? ⟨gb285,0,none⟩ = some (.int .i64 t282):=(D5 BK285.out 0).trans rfl
        have hcz112_1 : w40.cell? ⟨gb285,1,none⟩ = some (.int .i64 t283):=(D5 BK285.out 1).trans rfl
        have hfz112_0:=blk_frozen BK285.out 0
        have hfz112_1:=blk_frozen BK285.out 1
        have hnb113:=NB289_271.out
        have hnc113:=NB271_289.out
        have hnb114:=NB289_272.out
        have hnc114:=NB272_289.out
        have hnb115:=NB289_293.out
        have hnc115:=NB293_289.out
        have hcz116_0 : w40.cell? ⟨gb289,0,none⟩ = some (.int .i64 t286):=(D5 BK289.out 0).trans rfl
        have hcz116_1 : w40.cell? ⟨gb289,1,none⟩ = some (.int .i64 t287):=(D5 BK289.out 1).trans rfl
        have hfz116_0:=blk_frozen BK289.out 0
        have hfz116_1:=blk_frozen BK289.out 1
        have hnb117:=NB293_271.out
        have hnc117:=NB271_293.out
        have hnb118:=NB293_272.out
        have hnc118:=NB272_293.out
        have hcz119_0 : w40.cell? ⟨gb293,0,none⟩ = some (.int .i64 0):=(D5 BK293.out 0).trans rfl
        have hcz119_1 : w40.cell? ⟨gb293,1,none⟩ = some (.int .i64 0):=(D5 BK293.out 1).trans rfl
        have hfz119_0:=blk_frozen BK293.out 0
        have hfz119_1:=blk_frozen BK293.out 1
        go_wp2
        go_meet
        case rel => exact ⟨_,(true),(by first|rfl|(simp;done)|(simp [*];done)),H',⟨by first|omega|exact Nat.le_refl _⟩,⟨by (with_reducible repeat (first|refine D1 ?_ _|refine D2 ?_|refine D3 ?_ _));refine blk_far ?_ NB271_293.out _;(with_reducible repeat (first|refine D1 ?_ _|refine D2 ?_|refine D3 ?_ _));refine blk_far ?_ NB271_293.out _;(with_reducible repeat (first|refine D1 ?_ _|refine D2 ?_|refine D3 ?_ _));exact BK271.out⟩,⟨by (with_reducible repeat (first|refine D1 ?_ _|refine D2 ?_|refine D3 ?_ _));refine blk_far ?_ NB272_293.out _;(with_reducible repeat (first|refine D1 ?_ _|refine D2 ?_|refine D3 ?_ _));refine blk_far ?_ NB272_293.out _;(with_reducible repeat (first|refine D1 ?_ _|refine D2 ?_|refine D3 ?_ _));exact BK272.out⟩,⟨by (with_reducible repeat (first|refine D1 ?_ _|refine D2 ?_|refine D3 ?_ _));refine blk_far ?_ NB281_293.out _;(with_reducible repeat (first|refine D1 ?_ _|refine D2 ?_|refine D3 ?_ _));refine blk_far ?_ NB281_293.out _;(with_reducible repeat (first|refine D1 ?_ _|refine D2 ?_|refine D3 ?_ _));exact BK281.out⟩,⟨by (with_reducible repeat (first|refine D1 ?_ _|refine D2 ?_|refine D3 ?_ _));refine blk_far ?_ NB285_293.out _;(with_reducible repeat (first|refine D1 ?_ _|refine D2 ?_|refine D3 ?_ _));refine blk_far ?_ NB285_293.out _;(with_reducible repeat (first|refine D1 ?_ _|refine D2 ?_|refine D3 ?_ _));exact BK285.out⟩,⟨by (with_reducible repeat (first|refine D1 ?_ _|refine D2 ?_|refine D3 ?_ _));refine blk_far ?_ NB289_293.out _;(with_reducible repeat (first|refine D1 ?_ _|refine D2 ?_|refine D3 ?_ _));refine blk_far ?_ NB289_293.out _;(with_reducible repeat (first|refine D1 ?_ _|refine D2 ?_|refine D3 ?_ _));exact BK289.out⟩,⟨by (with_reducible repeat (first|refine D1 ?_ _|refine D2 ?_|refine D3 ?_ _));refine blk_put (cs:=#[.int .i64 t290,.int .i64 0]) ?_ 1 _ rfl;(with_reducible repeat (first|refine D1 ?_ _|refine D2 ?_|refine D3 ?_ _));refine blk_put (cs:=#[.int .i64 0,.int .i64 0]) ?_ 0 _ rfl;(with_reducible repeat (first|refine D1 ?_ _|refine D2 ?_|refine D3 ?_ _));exact BK293.out⟩,⟨by repeat (first|(with_reducible first|exact HB.out|apply below_alloc|apply D7|apply below_drew1|refine D4 ?_ GE271.out|refine D4 ?_ GE272.out|refine D4 ?_ GE281.out|refine D4 ?_ GE285.out|refine D4 ?_ GE289.out|refine D4 ?_ GE293.out)|exact HB.out)⟩⟩
     ·rw [if_neg c61] at H
      have c61b0 : (t280 == t284) = false:=beq_eq_false_iff_ne.mpr c61
      have c61b1 : (t280 != t284) = true:=bne_iff_ne.mpr c61
      have H':=AK H
      clear H
      have hnb120:=NB281_271.out
      have hnc120:=NB271_281.out
      have hnb121:=NB281_272.out
      have hnc121:=NB272_281.out
      have hnb122:=NB281_285.out
      have hnc122:=NB285_281.out
      have hnb123:=NB281_289.out
      have hnc123:=NB289_281.out
      have hnb124:=NB281_293.out
      have hnc124:=NB293_281.out
      have hcz125_0 : w40.cell? ⟨gb281,0,none⟩ = some (.int .i64 t278):=(D5 BK281.out 0).trans rfl
      have hcz125_1 : w40.cell? ⟨gb281,1,none⟩ = some (.int .i64 t279):=(D5 BK281.out 1).trans rfl
      have hfz125_0:=blk_frozen BK281.out 0
      have hfz125_1:=blk_frozen BK281.out 1
      have hnb126:=NB285_271.out
      have hnc126:=NB271_285.out
      have hnb127:=NB285_272.out
      have hnc127:=NB272_285.out
      have hnb128:=NB285_289.out
      have hnc128:=NB289_285.out
      have hnb129:=NB285_293.out
      have hnc129:=NB293_285.out
      have hcz130_0 : w40.cell? ⟨gb285,0,none⟩ = some (.int .i64 t282):=(D5 BK285.out 0).trans rfl
      have hcz130_1 : w40.cell? ⟨gb285,1,none⟩ = some (.int .i64 t283):=(D5 BK285.out 1).trans rfl
      have hfz130_0:=blk_frozen BK285.out 0
      have hfz130_1:=blk_frozen BK285.out 1
      go_wp2
      go_meet
      case rel => exact ⟨_,(true),(by first|rfl|(simp;done)|(simp [*];done)),H',⟨by first|omega|exact Nat.le_refl _⟩,⟨by (with_reducible repeat (first|refine D1 ?_ _|refine D2 ?_|refine D3 ?_ _));refine blk_far ?_ NB271_293.out _;(with_reducible repeat (first|refine D1 ?_ _|refine D2 ?_|refine D3 ?_ _));refine blk_far ?_ NB271_293.out _;(with_reducible repeat (first|refine D1 ?_ _|refine D2 ?_|refine D3 ?_ _));exact BK271.out⟩,⟨by (with_reducible repeat (first|refine D1 ?_ _|refine D2 ?_|refine D3 ?_ _));refine blk_far ?_ NB272_293.out _;(with_reducible repeat (first|refine D1 ?_ _|refine D2 ?_|refine D3 ?_ _));refine blk_far ?_ NB272_293.out _;(with_reducible repeat (first|refine D1 ?_ _|refine D2 ?_|refine D3 ?_ _));exact BK272.out⟩,⟨by (with_reducible repeat (first|refine D1 ?_ _|refine D2 ?_|refine D3 ?_ _));refine blk_far ?_ NB281_293.out _;(with_reducible repeat (first|refine D1 ?_ _|refine D2 ?_|refine D3 ?_ _));refine blk_far ?_ NB281_293.out _;(with_reducible repeat (first|refine D1 ?_ _|refine D2 ?_|refine D3 ?_ _));exact BK281.out⟩,⟨by (with_reducible repeat (first|refine D1 ?_ _|refine D2 ?_|refine D3 ?_ _));refine blk_far ?_ NB285_293.out _;(with_reducible repeat (first|refine D1 ?_ _|refine D2 ?_|refine D3 ?_ _));refine blk_far ?_ NB285_293.out _;(with_reducible repeat (first|refine D1 ?_ _|refine D2 ?_|refine D3 ?_ _));exact BK285.out⟩,⟨by (with_reducible repeat (first|refine D1 ?_ _|refine D2 ?_|refine D3 ?_ _));refine blk_far ?_ NB289_293.out _;(with_reducible repeat (first|refine D1 ?_ _|refine D2 ?_|refine D3 ?_ _));refine blk_far ?_ NB289_293.out _;(with_reducible repeat (first|refine D1 ?_ _|refine D2 ?_|refine D3 ?_ _));exact BK289.out⟩,⟨by (with_reducible repeat (first|refine D1 ?_ _|refine D2 ?_|refine D3 ?_ _));refine blk_put (cs:=#[.int .i64 t290,.int .i64 0]) ?_ 1 _ rfl;(with_reducible repeat (first|refine D1 ?_ _|refine D2 ?_|refine D3 ?_ _));refine blk_put (cs:=#[.int .i64 0,.int .i64 0]) ?_ 0 _ rfl;(with_reducible repeat (first|refine D1 ?_ _|refine D2 ?_|refine D3 ?_ _));exact BK293.out⟩,⟨by repeat (first|(with_reducible first|exact HB.out|apply below_alloc|apply D7|apply below_drew1|refine D4 ?_ GE271.out|refine D4 ?_ GE272.out|refine D4 ?_ GE281.out|refine D4 ?_ GE285.out|refine D4 ?_ GE289.out|refine D4 ?_ GE293.out)|exact HB.out)⟩⟩
   ·rw [if_neg c48] at H
    have c48b0 : (t275 == t277) = false:=beq_eq_false_iff_ne.mpr c48
    have c48b1 : (t275 != t277) = true:=bne_iff_ne.mpr c48
    have H':=AK H
    clear H
    go_wp2
    go_meet
    case rel => exact ⟨_,(true),(by first|rfl|(simp;done)|(simp [*];done)),H',⟨by first|omega|exact Nat.le_refl _⟩,⟨by (with_reducible repeat (first|refine D1 ?_ _|refine D2 ?_|refine D3 ?_ _));refine blk_far ?_ NB271_293.out _;(with_reducible repeat (first|refine D1 ?_ _|refine D2 ?_|refine D3 ?_ _));refine blk_far ?_ NB271_293.out _;(with_reducible repeat (first|refine D1 ?_ _|refine D2 ?_|refine D3 ?_ _));exact BK271.out⟩,⟨by (with_reducible repeat (first|refine D1 ?_ _|refine D2 ?_|refine D3 ?_ _));refine blk_far ?_ NB272_293.out _;(with_reducible repeat (first|refine D1 ?_ _|refine D2 ?_|refine D3 ?_ _));refine blk_far ?_ NB272_293.out _;(with_reducible repeat (first|refine D1 ?_ _|refine D2 ?_|refine D3 ?_ _));exact BK272.out⟩,⟨by (with_reducible repeat (first|refine D1 ?_ _|refine D2 ?_|refine D3 ?_ _));refine blk_far ?_ NB281_293.out _;(with_reducible repeat (first|refine D1 ?_ _|refine D2 ?_|refine D3 ?_ _));refine blk_far ?_ NB281_293.out _;(with_reducible repeat (first|refine D1 ?_ _|refine D2 ?_|refine D3 ?_ _));exact BK281.out⟩,⟨by (with_reducible repeat (first|refine D1 ?_ _|refine D2 ?_|refine D3 ?_ _));refine blk_far ?_ NB285_293.out _;(with_reducible repeat (first|refine D1 ?_ _|refine D2 ?_|refine D3 ?_ _));refine blk_far ?_ NB285_293.out _;(with_reducible repeat (first|refine D1 ?_ _|refine D2 ?_|refine D3 ?_ _));exact BK285.out⟩,⟨by (with_reducible repeat (first|refine D1 ?_ _|refine D2 ?_|refine D3 ?_ _));refine blk_far ?_ NB289_293.out _;(with_reducible repeat (first|refine D1 ?_ _|refine D2 ?_|refine D3 ?_ _));refine blk_far ?_ NB289_293.out _;(with_reducible repeat (first|refine D1 ?_ _|refine D2 ?_|refine D3 ?_ _));exact BK289.out⟩,⟨by (with_reducible repeat (first|refine D1 ?_ _|refine D2 ?_|refine D3 ?_ _));refine blk_put (cs:=#[.int .i64 t290,.int .i64 0]) ?_ 1 _ rfl;(with_reducible repeat (first|refine D1 ?_ _|refine D2 ?_|refine D3 ?_ _));refine blk_put (cs:=#[.int .i64 0,.int .i64 0]) ?_ 0 _ rfl;(with_reducible repeat (first|refine D1 ?_ _|refine D2 ?_|refine D3 ?_ _));exact BK293.out⟩,⟨by repeat (first|(with_reducible first|exact HB.out|apply below_alloc|apply D7|apply below_drew1|refine D4 ?_ GE271.out|refine D4 ?_ GE272.out|refine D4 ?_ GE281.out|refine D4 ?_ GE285.out|refine D4 ?_ GE289.out|refine D4 ?_ GE293.out)|exact HB.out)⟩⟩
  ·rw [if_neg c47] at H
   have c47b0 : (t274 == t276) = false:=beq_eq_false_iff_ne.mpr c47
   have c47b1 : (t274 != t276) = true:=bne_iff_ne.mpr c47
   (first|rw [c47b0]|(simp only [i64_w,i32_w];rw [c47b0])|skip)
   have H':=AK H
   clear H
   go_wp2
   go_meet
   case rel => exact ⟨_,(true),(by first|rfl|(simp;done)|(simp [*];done)),H',⟨by first|omega|exact Nat.le_refl _⟩,⟨by (with_reducible repeat (first|refine D1 ?_ _|refine D2 ?_|refine D3 ?_ _));refine blk_far ?_ NB271_293.out _;(with_reducible repeat (first|refine D1 ?_ _|refine D2 ?_|refine D3 ?_ _));refine blk_far ?_ NB271_293.out _;(with_reducible repeat (first|refine D1 ?_ _|refine D2 ?_|refine D3 ?_ _));exact BK271.out⟩,⟨by (with_reducible repeat (first|refine D1 ?_ _|refine D2 ?_|refine D3 ?_ _));refine blk_far ?_ NB272_293.out _;(with_reducible repeat (first|refine D1 ?_ _|refine D2 ?_|refine D3 ?_ _));refine blk_far ?_ NB272_293.out _;(with_reducible repeat (first|refine D1 ?_ _|refine D2 ?_|refine D3 ?_ _));exact BK272.out⟩,⟨by (with_reducible repeat (first|refine D1 ?_ _|refine D2 ?_|refine D3 ?_ _));refine blk_far ?_ NB281_293.out _;(with_reducible repeat (first|refine D1 ?_ _|refine D2 ?_|refine D3 ?_ _));refine blk_far ?_ NB281_293.out _;(with_reducible repeat (first|refine D1 ?_ _|refine D2 ?_|refine D3 ?_ _));exact BK281.out⟩,⟨by (with_reducible repeat (first|refine D1 ?_ _|refine D2 ?_|refine D3 ?_ _));refine blk_far ?_ NB285_293.out _;(with_reducible repeat (first|refine D1 ?_ _|refine D2 ?_|refine D3 ?_ _));refine blk_far ?_ NB285_293.out _;(with_reducible repeat (first|refine D1 ?_ _|refine D2 ?_|refine D3 ?_ _));exact BK285.out⟩,⟨by (with_reducible repeat (first|refine D1 ?_ _|refine D2 ?_|refine D3 ?_ _));refine blk_far ?_ NB289_293.out _;(with_reducible repeat (first|refine D1 ?_ _|refine D2 ?_|refine D3 ?_ _));refine blk_far ?_ NB289_293.out _;(with_reducible repeat (first|refine D1 ?_ _|refine D2 ?_|refine D3 ?_ _));exact BK289.out⟩,⟨by (with_reducible repeat (first|refine D1 ?_ _|refine D2 ?_|refine D3 ?_ _));refine blk_put (cs:=#[.int .i64 t290,.int .i64 0]) ?_ 1 _ rfl;(with_reducible repeat (first|refine D1 ?_ _|refine D2 ?_|refine D3 ?_ _));refine blk_put (cs:=#[.int .i64 0,.int .i64 0]) ?_ 0 _ rfl;(with_reducible repeat (first|refine D1 ?_ _|refine D2 ?_|refine D3 ?_ _));exact BK293.out⟩,⟨by repeat (first|(with_reducible first|exact HB.out|apply below_alloc|apply D7|apply below_drew1|refine D4 ?_ GE271.out|refine D4 ?_ GE272.out|refine D4 ?_ GE281.out|refine D4 ?_ GE285.out|refine D4 ?_ GE289.out|refine D4 ?_ GE293.out)|exact HB.out)⟩⟩
 case rest =>
  clear HC13
  obtain ⟨kq,x99_12,rfl,HA,HJ12,BK271,BK272,BK281,BK285,BK289,BK293,HB⟩:=hcut
  cases kq with
  | zero => exact absurd HA.out (by simp [awardingbodylaw41_SignatureExact.j0])
  | succ kj12 =>
   have H:=HA.out
   clear HA
   simp only [awardingbodylaw41_SignatureExact.j0] at H
   by_cases c131 : x99_12 = true
   ·subst c131
    have H1 : (some false) = some r:=by rw [if_pos rfl] at H;exact H
    clear H
    have H:=H1
    clear H1
    obtain rfl:=Option.some.inj H
    go_wp2
    go_ret
    exact ⟨by first|rfl|(simp [errW_none,errW_some] <;> rfl)|(simp [*,errW_none,errW_some] <;> rfl),by repeat (first|(with_reducible first|exact HB.out|apply below_alloc|apply D7|apply below_drew1|refine D4 ?_ GE271.out|refine D4 ?_ GE272.out|refine D4 ?_ GE281.out|refine D4 ?_ GE285.out|refine D4 ?_ GE289.out|refine D4 ?_ GE293.out)|exact HB.out)⟩
   ·replace c131:=Bool.eq_false_iff.mpr c131
    subst c131
    have H1 : ((awardingbodymark_Mod.f a0 2147483579).bind fun t296 => ((awardingbodymark_Mod.f a1 1099511627776).bind fun t297 => ((awardingbodymark_Mod.f a0 9).bind fun t298 => ((awardingbodymark_Mod.f a1 9).bind fun t299 => (awardingbodylaw41_SignatureExact.l0 kj12 a0 (wrap64 (1 + t273)) 0 a3_0 a3_1 a3_2 a3_3 a4_0 a4_1 t290 t291 a0 a1 t296 t297 t298 t299))))) = some r:=by rw [if_neg (show ¬ (false = true) by decide)] at H;exact H
    clear H
    have H:=H1
    clear H1
    replace H:=Option.bind_eq_some_iff.mp H
    obtain ⟨t296,A1320,H⟩:=H
    replace H : ((awardingbodymark_Mod.f a1 1099511627776).bind fun t297 => ((awardingbodymark_Mod.f a0 9).bind fun t298 => ((awardingbodymark_Mod.f a1 9).bind fun t299 => (awardingbodylaw41_SignatureExact.l0 kj12 a0 (wrap64 (1 + t273)) 0 a3_0 a3_1 a3_2 a3_3 a4_0 a4_1 t290 t291 a0 a1 t296 t297 t298 t299)))) = some r:=H
    have A132:=AK A1320
    clear A1320
    replace H:=Option.bind_eq_some_iff.mp H
    obtain ⟨t297,A1330,H⟩:=H
    replace H : ((awardingbodymark_Mod.f a0 9).bind fun t298 => ((awardingbodymark_Mod.f a1 9).bind fun t299 => (awardingbodylaw41_SignatureExact.l0 kj12 a0 (wrap64 (1 + t273)) 0 a3_0 a3_1 a3_2 a3_3 a4_0 a4_1 t290 t291 a0 a1 t296 t297 t298 t299))) = some r:=H
    have A133:=AK A1330
    clear A1330
    replace H:=Option.bind_eq_some_iff.mp H
    obtain ⟨t298,A1340,H⟩:=H
    replace H : ((awardingbodymark_Mod.f a1 9).bind fun t299 => (awardingbodylaw41_SignatureExact.l0 kj12 a0 (wrap64 (1 + t273)) 0 a3_0 a3_1 a3_2 a3_3 a4_0 a4_1 t290 t291 a0 a1 t296 t297 t298 t299)) = some r:=H
    have A134:=AK A1340
    clear A1340
    replace H:=Option.bind_eq_some_iff.mp H
    obtain ⟨t299,A1350,H⟩:=H
    replace H : (awardingbodylaw41_SignatureExact.l0 kj12 a0 (wrap64 (1 + t273)) 0 a3_0 a3_1 a3_2 a3_3 a4_0 a4_1 t290 t291 a0 a1 t296 t297 t298 t299) = some r:=H
    have A135:=AK A1350
    clear A1350
    have H':=AK H
    clear H
    go_wp2_with (first|((with_reducible refine gate_callee (f:=8) rfl ?_);refine goesL_ (some 104) rfl rfl Try.func8 (by kernel_rfl) rfl #[.int .i64 a0,.int .i64 2147483579] rfl (by (try simp only [List.map_toArray,List.map_cons,List.map_nil]);first|done|rfl|(simp only [List.length_drop,List.length_take];rfl)) ?_;(with_reducible refine (awardingbodymark_Mod.calls a0 2147483579 t296 _ A132.out).mono ?_);rintro e w' ⟨rfl,⟨nd,rfl⟩⟩;refine ⟨_,rfl,?_⟩)|((with_reducible refine gate_callee (f:=8) rfl ?_);refine goesL_ (some 106) rfl rfl Try.func8 (by kernel_rfl) rfl #[.int .i64 a1,.int .i64 1099511627776] rfl (by (try simp only [List.map_toArray,List.map_cons,List.map_nil]);first|done|rfl|(simp only [List.length_drop,List.length_take];rfl)) ?_;(with_reducible refine (awardingbodymark_Mod.calls a1 1099511627776 t297 _ A133.out).mono ?_);rintro e w' ⟨rfl,⟨nd,rfl⟩⟩;refine ⟨_,rfl,?_⟩)|((with_reducible refine gate_callee (f:=8) rfl ?_);refine goesL_ (some 109) rfl rfl Try.func8 (by kernel_rfl) rfl #[.int .i64 a0,.int .i64 9] rfl (by (try simp only [List.map_toArray,List.map_cons,List.map_nil]);first|done|rfl|(simp only [List.length_drop,List.length_take];rfl)) ?_;(with_reducible refine (awardingbodymark_Mod.calls a0 9 t298 _ A134.out).mono ?_);rintro e w' ⟨rfl,⟨nd,rfl⟩⟩;refine ⟨_,rfl,?_⟩)|((with_reducible refine gate_callee (f:=8) rfl ?_);refine goesL_ (some 111) rfl rfl Try.func8 (by kernel_rfl) rfl #[.int .i64 a1,.int .i64 9] rfl (by (try simp only [List.map_toArray,List.map_cons,List.map_nil]);first|done|rfl|(simp only [List.length_drop,List.length_take];rfl)) ?_;(with_reducible refine (awardingbodymark_Mod.calls a1 9 t299 _ A135.out).mono ?_);rintro e w' ⟨rfl,⟨nd,rfl⟩⟩;refine ⟨_,rfl,?_⟩))
    go_loopg [114] kj12 (fun kq v114 w' => ∃ (x114_2 : Int),v114 = .int .i64 x114_2 ∧ Aside0 (awardingbodylaw41_SignatureExact.l0 kq a0 (wrap64 (1 + t273)) x114_2 a3_0 a3_1 a3_2 a3_3 a4_0 a4_1 t290 t291 a0 a1 t296 t297 t298 t299 = some r) ∧ Aside0 (kq ≤ kj12) ∧ Aside0 (w'.heap[gb271]? = some (.cells #[.int .u32 a3_0,.int .u32 a3_1,.int .u32 a3_2,.int .u32 a3_3] 24 (0,0))) ∧ Aside0 (w'.heap[gb272]? = some (.cells #[.int .i64 a4_0,.int .i64 a4_1] 26 (0,0))) ∧ Aside0 (w'.heap[gb281]? = some (.cells #[.int .i64 t278,.int .i64 t279] 26 (0,0))) ∧ Aside0 (w'.heap[gb285]? = some (.cells #[.int .i64 t282,.int .i64 t283] 26 (0,0))) ∧ Aside0 (w'.heap[gb289]? = some (.cells #[.int .i64 t286,.int .i64 t287] 26 (0,0))) ∧ Aside0 (w'.heap[gb293]? = some (.cells #[.int .i64 t290,.int .i64 t291] 26 (0,0))) ∧ Aside0 (Below w.heap.size w w'))
    case atStart => exact ⟨(0),(by first|rfl|(simp;done)|(simp [*];done)),H',⟨Nat.le_refl _⟩,⟨by (with_reducible repeat (first|refine D1 ?_ _|refine D2 ?_|refine D3 ?_ _));exact BK271.out⟩,⟨by (with_reducible repeat (first|refine D1 ?_ _|refine D2 ?_|refine D3 ?_ _));exact BK272.out⟩,⟨by (with_reducible repeat (first|refine D1 ?_ _|refine D2 ?_|refine D3 ?_ _));exact BK281.out⟩,⟨by (with_reducible repeat (first|refine D1 ?_ _|refine D2 ?_|refine D3 ?_ _));exact BK285.out⟩,⟨by (with_reducible repeat (first|refine D1 ?_ _|refine D2 ?_|refine D3 ?_ _));exact BK289.out⟩,⟨by (with_reducible repeat (first|refine D1 ?_ _|refine D2 ?_|refine D3 ?_ _));exact BK293.out⟩,⟨by repeat (first|(with_reducible first|exact HB.out|apply below_alloc|apply D7|apply below_drew1|refine D4 ?_ GE271.out|refine D4 ?_ GE272.out|refine D4 ?_ GE281.out|refine D4 ?_ GE285.out|refine D4 ?_ GE289.out|refine D4 ?_ GE293.out)|exact HB.out)⟩⟩
    case round =>
     clear H'
     obtain ⟨x114_2,rfl,HA,HK2,BK271,BK272,BK281,BK285,BK289,BK293,HB⟩:=hrel
     cases gk with
     | zero => exact absurd HA.out (by simp [awardingbodylaw41_SignatureExact.l0])
     | succ k2 =>
      have H:=HA.out
      clear HA
      simp only [awardingbodylaw41_SignatureExact.l0] at H
      by_cases c136 : x114_2 < 3
      ·rw [if_pos c136] at H
       have c136b0 : decide (x114_2 < 3) = true:=decide_eq_true c136
       clear c136
       by_cases c137 : 0 ≤ x114_2
       ·rw [if_pos c137] at H
        have c137b0 : decide (0 ≤ x114_2) = true:=decide_eq_true c137
        clear c137
        have HC138:=AK H
        clear H
        go_upto_region 13 with (first|((with_reducible refine gate_dst (N:=25) rfl ?_);refine box_event ?hg (N:=25) ?hd (cs:=#[.int .i64 0,.int .i64 0]) (t:=34) ?hr ?_;(case hd => rfl);(case hg => rfl);(case hr => first|(go_simp;done)|(go_simp;rfl));intro gb304 hg w139 hbox hb;have n0_:=AK (D6 (g:=gb271) (o:=.cells #[.int .u32 a3_0,.int .u32 a3_1,.int .u32 a3_2,.int .u32 a3_3] 24 (0,0)) (by (with_reducible repeat (first|refine D1 ?_ _|refine D2 ?_|refine D3 ?_ _));exact BK271.out) hb);have n1_:=AK (D6 (g:=gb272) (o:=.cells #[.int .i64 a4_0,.int .i64 a4_1] 26 (0,0)) (by (with_reducible repeat (first|refine D1 ?_ _|refine D2 ?_|refine D3 ?_ _));exact BK272.out) hb);have n2_:=AK (D6 (g:=gb281) (o:=.cells #[.int .i64 t278,.int .i64 t279] 26 (0,0)) (by (with_reducible repeat (first|refine D1 ?_ _|refine D2 ?_|refine D3 ?_ _));exact BK281.out) hb);have n3_:=AK (D6 (g:=gb285) (o:=.cells #[.int .i64 t282,.int .i64 t283] 26 (0,0)) (by (with_reducible repeat (first|refine D1 ?_ _|refine D2 ?_|refine D3 ?_ _));exact BK285.out) hb);have n4_:=AK (D6 (g:=gb289) (o:=.cells #[.int .i64 t286,.int .i64 t287] 26 (0,0)) (by (with_reducible repeat (first|refine D1 ?_ _|refine D2 ?_|refine D3 ?_ _));exact BK289.out) hb);have n5_:=AK (D6 (g:=gb293) (o:=.cells #[.int .i64 t290,.int .i64 t291] 26 (0,0)) (by (with_reducible repeat (first|refine D1 ?_ _|refine D2 ?_|refine D3 ?_ _));exact BK293.out) hb);have n6_:=AK (below_step (by repeat (first|(with_reducible first|exact HB.out|apply below_alloc|apply D7|apply below_drew1|refine D4 ?_ GE271.out|refine D4 ?_ GE272.out|refine D4 ?_ GE281.out|refine D4 ?_ GE285.out|refine D4 ?_ GE289.out|refine D4 ?_ GE293.out)|exact HB.out)) hb);have n7_:=AK (hbox);have n8_:=AK ((by rw [hg];exact (below_size (by repeat (first|(with_reducible first|exact HB.out|apply below_alloc|apply D7|apply below_drew1|refine D4 ?_ GE271.out|refine D4 ?_ GE272.out|refine D4 ?_ GE281.out|refine D4 ?_ GE285.out|refine D4 ?_ GE289.out|refine D4 ?_ GE293.out)|exact HB.out))) : w.heap.size ≤ gb304));have n9_:=AK ((by rw [hg];exact (below_size (by repeat (first|(with_reducible first|exact HB.out|apply below_alloc|apply D7|apply below_drew1|refine D4 ?_ GE271.out|refine D4 ?_ GE272.out|refine D4 ?_ GE281.out|refine D4 ?_ GE285.out|refine D4 ?_ GE289.out|refine D4 ?_ GE293.out)|exact HB.out))) : w.heap.size ≤ gb304));have n10_:=AK ((by rw [hg];exact Nat.ne_of_lt (blk_lt (g:=gb271) (o:=.cells #[.int .u32 a3_0,.int .u32 a3_1,.int .u32 a3_2,.int .u32 a3_3] 24 (0,0)) (by (with_reducible repeat (first|refine D1 ?_ _|refine D2 ?_|refine D3 ?_ _));exact BK271.out)) : gb271 ≠ gb304));have n11_:=AK ((by rw [hg];exact Nat.ne_of_gt (blk_lt (g:=gb271) (o:=.cells #[.int .u32 a3_0,.int .u32 a3_1,.int .u32 a3_2,.int .u32 a3_3] 24 (0,0)) (by (with_reducible repeat (first|refine D1 ?_ _|refine D2 ?_|refine D3 ?_ _));exact BK271.out)) : gb304 ≠ gb271));have n12_:=AK ((by rw [hg];exact Nat.ne_of_lt (blk_lt (g:=gb272) (o:=.cells #[.int .i64 a4_0,.int .i64 a4_1] 26 (0,0)) (by (with_reducible repeat (first|refine D1 ?_ _|refine D2 ?_|refine D3 ?_ _));exact BK272.out)) : gb272 ≠ gb304));have n13_:=AK ((by rw [hg];exact Nat.ne_of_gt (blk_lt (g:=gb272) (o:=.cells #[.int .i64 a4_0,.int .i64 a4_1] 26 (0,0)) (by (with_reducible repeat (first|refine D1 ?_ _|refine D2 ?_|refine D3 ?_ _));exact BK272.out)) : gb304 ≠ gb272));have n14_:=AK ((by rw [hg];exact Nat.ne_of_lt (blk_lt (g:=gb281) (o:=.cells #[.int .i64 t278,.int .i64 t279] 26 (0,0)) (by (with_reducible repeat (first|refine D1 ?_ _|refine D2 ?_|refine D3 ?_ _));exact BK281.out)) : gb281 ≠ gb304));have n15_:=AK ((by rw [hg];exact Nat.ne_of_gt (blk_lt (g:=gb281) (o:=.cells #[.int .i64 t278,.int .i64 t279] 26 (0,0)) (by (with_reducible repeat (first|refine D1 ?_ _|refine D2 ?_|refine D3 ?_ _));exact BK281.out)) : gb304 ≠ gb281));have n16_:=AK ((by rw [hg];exact Nat.ne_of_lt (blk_lt (g:=gb285) (o:=.cells #[.int .i64 t282,.int .i64 t283] 26 (0,0)) (by (with_reducible repeat (first|refine D1 ?_ _|refine D2 ?_|refine D3 ?_ _));exact BK285.out)) : gb285 ≠ gb304));have n17_:=AK ((by rw [hg];exact Nat.ne_of_gt (blk_lt (g:=gb285) (o:=.cells #[.int .i64 t282,.int .i64 t283] 26 (0,0)) (by (with_reducible repeat (first|refine D1 ?_ _|refine D2 ?_|refine D3 ?_ _));exact BK285.out)) : gb304 ≠ gb285));have n18_:=AK ((by rw [hg];exact Nat.ne_of_lt (blk_lt (g:=gb289) (o:=.cells #[.int .i64 t286,.int .i64 t287] 26 (0,0)) (by (with_reducible repeat (first|refine D1 ?_ _|refine D2 ?_|refine D3 ?_ _));exact BK289.out)) : gb289 ≠ gb304));have n19_:=AK ((by rw [hg];exact Nat.ne_of_gt (blk_lt (g:=gb289) (o:=.cells #[.int .i64 t286,.int .i64 t287] 26 (0,0)) (by (with_reducible repeat (first|refine D1 ?_ _|refine D2 ?_|refine D3 ?_ _));exact BK289.out)) : gb304 ≠ gb289));have n20_:=AK ((by rw [hg];exact Nat.ne_of_lt (blk_lt (g:=gb293) (o:=.cells #[.int .i64 t290,.int .i64 t291] 26 (0,0)) (by (with_reducible repeat (first|refine D1 ?_ _|refine D2 ?_|refine D3 ?_ _));exact BK293.out)) : gb293 ≠ gb304));have n21_:=AK ((by rw [hg];exact Nat.ne_of_gt (blk_lt (g:=gb293) (o:=.cells #[.int .i64 t290,.int .i64 t291] 26 (0,0)) (by (with_reducible repeat (first|refine D1 ?_ _|refine D2 ?_|refine D3 ?_ _));exact BK293.out)) : gb304 ≠ gb293));clear BK271;clear BK272;clear BK281;clear BK285;clear BK289;clear BK293;clear HB;have BK271:=n0_;have BK272:=n1_;have BK281:=n2_;have BK285:=n3_;have BK289:=n4_;have BK293:=n5_;have HB:=n6_;have BK304:=n7_;have GW304:=n8_;have GE304:=n9_;have NB271_304:=n10_;have NB304_271:=n11_;have NB272_304:=n12_;have NB304_272:=n13_;have NB281_304:=n14_;have NB304_281:=n15_;have NB285_304:=n16_;have NB304_285:=n17_;have NB289_304:=n18_;have NB304_289:=n19_;have NB293_304:=n20_;have NB304_293:=n21_;clear n0_ n1_ n2_ n3_ n4_ n5_ n6_ n7_ n8_ n9_ n10_ n11_ n12_ n13_ n14_ n15_ n16_ n17_ n18_ n19_ n20_ n21_;clear hb hbox hg;have hnb140:=NB304_271.out;have hnc140:=NB271_304.out;have hnb141:=NB304_272.out;have hnc141:=NB272_304.out;have hnb142:=NB304_281.out;have hnc142:=NB281_304.out;have hnb143:=NB304_285.out;have hnc143:=NB285_304.out;have hnb144:=NB304_289.out;have hnc144:=NB289_304.out;have hnb145:=NB304_293.out;have hnc145:=NB293_304.out;have hcz146_0 : w139.cell? ⟨gb304,0,none⟩ = some (.int .i64 0):=(D5 BK304.out 0).trans rfl;have hcz146_1 : w139.cell? ⟨gb304,1,none⟩ = some (.int .i64 0):=(D5 BK304.out 1).trans rfl;have hfz146_0:=blk_frozen BK304.out 0;have hfz146_1:=blk_frozen BK304.out 1))
        (try simp only [Act.put,Q2,Q0,Q1])
        go_cut [142] (fun v142 wc => ∃ (kq : Nat) (x142_137 : Bool),v142 = .bool x142_137 ∧ Aside0 (awardingbodylaw41_SignatureExact.j2 kq a0 (wrap64 (1 + t273)) x114_2 x142_137 a3_0 a3_1 a3_2 a3_3 a4_0 a4_1 t290 t291 a0 a1 t296 t297 t298 t299 = some r) ∧ Aside0 (kq ≤ k2) ∧ Aside0 (wc.heap[gb271]? = some (.cells #[.int .u32 a3_0,.int .u32 a3_1,.int .u32 a3_2,.int .u32 a3_3] 24 (0,0))) ∧ Aside0 (wc.heap[gb272]? = some (.cells #[.int .i64 a4_0,.int .i64 a4_1] 26 (0,0))) ∧ Aside0 (wc.heap[gb281]? = some (.cells #[.int .i64 t278,.int .i64 t279] 26 (0,0))) ∧ Aside0 (wc.heap[gb285]? = some (.cells #[.int .i64 t282,.int .i64 t283] 26 (0,0))) ∧ Aside0 (wc.heap[gb289]? = some (.cells #[.int .i64 t286,.int .i64 t287] 26 (0,0))) ∧ Aside0 (wc.heap[gb293]? = some (.cells #[.int .i64 t290,.int .i64 t291] 26 (0,0))) ∧ Aside0 (wc.heap[gb304]? = some (.cells #[.int .i64 (ix3 x114_2 a0 t296 t298),.int .i64 (ix3 x114_2 a1 t297 t299)] 34 (0,0))) ∧ Aside0 (Below w.heap.size w wc))
        case first =>
         have H:=HC138.out
         clear HC138
         replace H:=Option.bind_eq_some_iff.mp H
         obtain ⟨t305,A1470,H⟩:=H
         replace H : ((awardingbodyref41_Power.f k2 (ix3 x114_2 a0 t296 t298) (ix3 x114_2 a1 t297 t299)).bind fun t306 => (if t305 = t306 then ((signature_Challenge.f k2 (ix3 x114_2 a0 t296 t298) (ix3 x114_2 a1 t297 t299) a3_0 a3_1 a3_2 a3_3).bind fun t307 => ((awardingbodyref41_Challenge.f k2 (ix3 x114_2 a0 t296 t298) (ix3 x114_2 a1 t297 t299) a3_0 a3_1 a3_2 a3_3).bind fun t308 => (awardingbodylaw41_SignatureExact.j2 k2 a0 (wrap64 (1 + t273)) x114_2 (t307 != t308) a3_0 a3_1 a3_2 a3_3 a4_0 a4_1 t290 t291 a0 a1 t296 t297 t298 t299))) else (awardingbodylaw41_SignatureExact.j2 k2 a0 (wrap64 (1 + t273)) x114_2 true a3_0 a3_1 a3_2 a3_3 a4_0 a4_1 t290 t291 a0 a1 t296 t297 t298 t299))) = some r:=H
         have A147:=AK A1470
         clear A1470
         replace H:=Option.bind_eq_some_iff.mp H
         obtain ⟨t306,A1480,H⟩:=H
         replace H : (if t305 = t306 then ((signature_Challenge.f k2 (ix3 x114_2 a0 t296 t298) (ix3 x114_2 a1 t297 t299) a3_0 a3_1 a3_2 a3_3).bind fun t307 => ((awardingbodyref41_Challenge.f k2 (ix3 x114_2 a0 t296 t298) (ix3 x114_2 a1 t297 t299) a3_0 a3_1 a3_2 a3_3).bind fun t308 => (awardingbodylaw41_SignatureExact.j2 k2 a0 (wrap64 (1 + t273)) x114_2 (t307 != t308) a3_0 a3_1 a3_2 a3_3 a4_0 a4_1 t290 t291 a0 a1 t296 t297 t298 t299))) else (awardingbodylaw41_SignatureExact.j2 k2 a0 (wrap64 (1 + t273)) x114_2 true a3_0 a3_1 a3_2 a3_3 a4_0 a4_1 t290 t291 a0 a1 t296 t297 t298 t299)) = some r:=H
         have A148:=AK A1480
         clear A1480
         by_cases c149 : t305 = t306
         ·rw [if_pos c149] at H
          have c149b0 : (t305 == t306) = true:=beq_iff_eq.mpr c149
          have c149b1 : (t305 != t306) = false:=bne_eq_false_iff_eq.mpr c149
          clear c149
          (first|rw [c149b0]|(simp only [i64_w,i32_w];rw [c149b0])|skip)
          replace H:=Option.bind_eq_some_iff.mp H
          obtain ⟨t307,A1500,H⟩:=H
          replace H : ((awardingbodyref41_Challenge.f k2 (ix3 x114_2 a0 t296 t298) (ix3 x114_2 a1 t297 t299) a3_0 a3_1 a3_2 a3_3).bind fun t308 => (awardingbodylaw41_SignatureExact.j2 k2 a0 (wrap64 (1 + t273)) x114_2 (t307 != t308) a3_0 a3_1 a3_2 a3_3 a4_0 a4_1 t290 t291 a0 a1 t296 t297 t298 t299)) = some r:=H
          have A150:=AK A1500
          clear A1500
          replace H:=Option.bind_eq_some_iff.mp H
          obtain ⟨t308,A1510,H⟩:=H
          replace H : (awardingbodylaw41_SignatureExact.j2 k2 a0 (wrap64 (1 + t273)) x114_2 (t307 != t308) a3_0 a3_1 a3_2 a3_3 a4_0 a4_1 t290 t291 a0 a1 t296 t297 t298 t299) = some r:=H
          have A151:=AK A1510
          clear A1510
          have H':=AK H
          clear H
          try go_wp2
          have n0_ : Aside0 (((w139.setCell ⟨gb304,0,none⟩ (.int .i64 (ix3 x114_2 a0 t296 t298))).setCell ⟨gb304,1,none⟩ (.int .i64 (ix3 x114_2 a1 t297 t299))).heap[gb271]? = some (.cells #[.int .u32 a3_0,.int .u32 a3_1,.int .u32 a3_2,.int .u32 a3_3] 24 (0,0))):=⟨by (with_reducible repeat (first|refine D1 ?_ _|refine D2 ?_|refine D3 ?_ _));refine blk_far ?_ NB271_304.out _;(with_reducible repeat (first|refine D1 ?_ _|refine D2 ?_|refine D3 ?_ _));refine blk_far ?_ NB271_304.out _;(with_reducible repeat (first|refine D1 ?_ _|refine D2 ?_|refine D3 ?_ _));exact BK271.out⟩
          have n1_ : Aside0 (((w139.setCell ⟨gb304,0,none⟩ (.int .i64 (ix3 x114_2 a0 t296 t298))).setCell ⟨gb304,1,none⟩ (.int .i64 (ix3 x114_2 a1 t297 t299))).heap[gb272]? = some (.cells #[.int .i64 a4_0,.int .i64 a4_1] 26 (0,0))):=⟨by (with_reducible repeat (first|refine D1 ?_ _|refine D2 ?_|refine D3 ?_ _));refine blk_far ?_ NB272_304.out _;(with_reducible repeat (first|refine D1 ?_ _|refine D2 ?_|refine D3 ?_ _));refine blk_far ?_ NB272_304.out _;(with_reducible repeat (first|refine D1 ?_ _|refine D2 ?_|refine D3 ?_ _));exact BK272.out⟩
          have n2_ : Aside0 (((w139.setCell ⟨gb304,0,none⟩ (.int .i64 (ix3 x114_2 a0 t296 t298))).setCell ⟨gb304,1,none⟩ (.int .i64 (ix3 x114_2 a1 t297 t299))).heap[gb281]? = some (.cells #[.int .i64 t278,.int .i64 t279] 26 (0,0))):=⟨by (with_reducible repeat (first|refine D1 ?_ _|refine D2 ?_|refine D3 ?_ _));refine blk_far ?_ NB281_304.out _;(with_reducible repeat (first|refine D1 ?_ _|refine D2 ?_|refine D3 ?_ _));refine blk_far ?_ NB281_304.out _;(with_reducible repeat (first|refine D1 ?_ _|refine D2 ?_|refine D3 ?_ _));exact BK281.out⟩
          have n3_ : Aside0 (((w139.setCell ⟨gb304,0,none⟩ (.int .i64 (ix3 x114_2 a0 t296 t298))).setCell ⟨gb304,1,none⟩ (.int .i64 (ix3 x114_2 a1 t297 t299))).heap[gb285]? = some (.cells #[.int .i64 t282,.int .i64 t283] 26 (0,0))):=⟨by (with_reducible repeat (first|refine D1 ?_ _|refine D2 ?_|refine D3 ?_ _));refine blk_far ?_ NB285_304.out _;(with_reducible repeat (first|refine D1 ?_ _|refine D2 ?_|refine D3 ?_ _));refine blk_far ?_ NB285_304.out _;(with_reducible repeat (first|refine D1 ?_ _|refine D2 ?_|refine D3 ?_ _));exact BK285.out⟩
          have n4_ : Aside0 (((w139.setCell ⟨gb304,0,none⟩ (.int .i64 (ix3 x114_2 a0 t296 t298))).setCell ⟨gb304,1,none⟩ (.int .i64 (ix3 x114_2 a1 t297 t299))).heap[gb289]? = some (.cells #[.int .i64 t286,.int .i64 t287] 26 (0,0))):=⟨by (with_reducible repeat (first|refine D1 ?_ _|refine D2 ?_|refine D3 ?_ _));refine blk_far ?_ NB289_304.out _;(with_reducible repeat (first|refine D1 ?_ _|refine D2 ?_|refine D3 ?_ _));refine blk_far ?_ NB289_304.out _;(with_reducible repeat (first|refine D1 ?_ _|refine D2 ?_|refine D3 ?_ _));exact BK289.out⟩
          have n5_ : Aside0 (((w139.setCell ⟨gb304,0,none⟩ (.int .i64 (ix3 x114_2 a0 t296 t298))).setCell ⟨gb304,1,none⟩ (.int .i64 (ix3 x114_2 a1 t297 t299))).heap[gb293]? = some (.cells #[.int .i64 t290,.int .i64 t291] 26 (0,0))):=⟨by (with_reducible repeat (first|refine D1 ?_ _|refine D2 ?_|refine D3 ?_ _));refine blk_far ?_ NB293_304.out _;(with_reducible repeat (first|refine D1 ?_ _|refine D2 ?_|refine D3 ?_ _));refine blk_far ?_ NB293_304.out _;(with_reducible repeat (first|refine D1 ?_ _|refine D2 ?_|refine D3 ?_ _));exact BK293.out⟩
          have n6_ : Aside0 (((w139.setCell ⟨gb304,0,none⟩ (.int .i64 (ix3 x114_2 a0 t296 t298))).setCell ⟨gb304,1,none⟩ (.int .i64 (ix3 x114_2 a1 t297 t299))).heap[gb304]? = some (.cells #[.int .i64 (ix3 x114_2 a0 t296 t298),.int .i64 (ix3 x114_2 a1 t297 t299)] 34 (0,0))):=⟨by (with_reducible repeat (first|refine D1 ?_ _|refine D2 ?_|refine D3 ?_ _));refine blk_put (cs:=#[.int .i64 (ix3 x114_2 a0 t296 t298),.int .i64 0]) ?_ 1 _ rfl;(with_reducible repeat (first|refine D1 ?_ _|refine D2 ?_|refine D3 ?_ _));refine blk_put (cs:=#[.int .i64 0,.int .i64 0]) ?_ 0 _ rfl;(with_reducible repeat (first|refine D1 ?_ _|refine D2 ?_|refine D3 ?_ _));exact BK304.out⟩
          have n7_ : Aside0 (Below w.heap.size w ((w139.setCell ⟨gb304,0,none⟩ (.int .i64 (ix3 x114_2 a0 t296 t298))).setCell ⟨gb304,1,none⟩ (.int .i64 (ix3 x114_2 a1 t297 t299)))):=⟨by repeat (first|(with_reducible first|exact HB.out|apply below_alloc|apply D7|apply below_drew1|refine D4 ?_ GE271.out|refine D4 ?_ GE272.out|refine D4 ?_ GE281.out|refine D4 ?_ GE285.out|refine D4 ?_ GE289.out|refine D4 ?_ GE293.out|refine D4 ?_ GE304.out)|exact HB.out)⟩
          (try clear BK271)
          (try clear BK272)
          (try clear BK281)
          (try clear BK285)
          (try clear BK289)
          (try clear BK293)
          (try clear BK304)
          (try clear HB)
          generalize ((w139.setCell ⟨gb304,0,none⟩ (.int .i64 (ix3 x114_2 a0 t296 t298))).setCell ⟨gb304,1,none⟩ (.int .i64 (ix3 x114_2 a1 t297 t299))) = w152 at n0_ n1_ n2_ n3_ n4_ n5_ n6_ n7_ ⊢
          have BK271:=n0_
          have BK272:=n1_
          have BK281:=n2_
          have BK285:=n3_
          have BK289:=n4_
          have BK293:=n5_
          have BK304:=n6_
          have HB:=n7_
          clear n0_ n1_ n2_ n3_ n4_ n5_ n6_ n7_
          have n0_:=AK (D2 BK271.out)
          have n1_:=AK (D2 BK272.out)
          have n2_:=AK (D2 BK281.out)
          have n3_:=AK (D2 BK285.out)
          have n4_:=AK (D2 BK289.out)
          have n5_:=AK (D2 BK293.out)
          have n6_:=AK (D2 BK304.out)
          have n7_:=AK (below_drew1 HB.out)
          clear BK271
          clear BK272
          clear BK281
          clear BK285
          clear BK289
          clear BK293
          clear BK304
          clear HB
          have BK271:=n0_
          have BK272:=n1_
          have BK281:=n2_
          have BK285:=n3_
          have BK289:=n4_
          have BK293:=n5_
          have BK304:=n6_
          have HB:=n7_
          clear n0_ n1_ n2_ n3_ n4_ n5_ n6_ n7_
          refine start_ (n:=26) (S:=fun w' => w'.cell? ⟨gb304,0,none⟩ = some (.int .i64 (ix3 x114_2 a0 t296 t298)) ∧ w'.cell? ⟨gb304,1,none⟩ = some (.int .i64 (ix3 x114_2 a1 t297 t299)) ∧ w'.cell? ⟨gb271,0,none⟩ = some (.int .u32 a3_0) ∧ w'.cell? ⟨gb271,1,none⟩ = some (.int .u32 a3_1) ∧ w'.cell? ⟨gb271,2,none⟩ = some (.int .u32 a3_2) ∧ w'.cell? ⟨gb271,3,none⟩ = some (.int .u32 a3_3)) (ds:=[]) #[F,F,F,F,F,F,F,F,F,F,F,F,F,F,F,F,F,F,F,F,F,F,F,F,F,F] (by kernel_rfl) rfl rfl ⟨(D5 BK304.out 0).trans rfl,(D5 BK304.out 1).trans rfl,(D5 BK271.out 0).trans rfl,(D5 BK271.out 1).trans rfl,(D5 BK271.out 2).trans rfl,(D5 BK271.out 3).trans rfl⟩ (fun hHeld => ?_);refine with_tabW awardingbodylaw41_SignatureExact.tab13 awardingbodylaw41_SignatureExact.bits13 (fun HT_ HW_ => ?_)
          generalize w152.drew = w153 at BK271 BK272 BK281 BK285 BK289 BK293 BK304 HB hHeld ⊢
          refine pure_ (i:=0) (N:=some 117) (v:=?_) (a':=?_) #[T,F,F,F,F,F,F,F,F,F,F,F,F,F,F,F,F,F,F,F,F,F,F,F,F,F] rfl rfl (any_of HT_.out (by kernel_rfl)) (fun _ _ _ h => h) (Or.inl ⟨by rfl,?_⟩) ?_ ?_
          rotate_left
          ·intro w'
           go_simp
           with_reducible rfl
          rotate_left
          ·simp only [Act.put,Q2,Q0,Q1,i64_w,i32_w]
           rfl
          refine pure_ (i:=2) (N:=some 119) (v:=?_) (a':=?_) #[T,F,T,F,F,F,F,F,F,F,F,F,F,F,F,F,F,F,F,F,F,F,F,F,F,F] rfl rfl (any_of HT_.out (by kernel_rfl)) (fun _ _ _ h => h) (Or.inl ⟨by rfl,?_⟩) ?_ ?_
          rotate_left
          ·intro w'
           go_simp
           with_reducible rfl
          rotate_left
          ·simp only [Act.put,Q2,Q0,Q1,i64_w,i32_w]
           rfl
          refine pure_ (i:=5) (N:=some 122) (v:=?_) (a':=?_) #[T,F,T,F,F,T,F,F,F,F,F,F,F,F,F,F,F,F,F,F,F,F,F,F,F,F] rfl rfl (any_of HT_.out (by kernel_rfl)) (fun _ _ _ h => h) (Or.inl ⟨by rfl,?_⟩) ?_ ?_
          rotate_left
          ·intro w'
           go_simp
           with_reducible rfl
          rotate_left
          ·simp only [Act.put,Q2,Q0,Q1,i64_w,i32_w]
           rfl
          refine pure_ (i:=7) (N:=some 124) (v:=?_) (a':=?_) #[T,F,T,F,F,T,F,T,F,F,F,F,F,F,F,F,F,F,F,F,F,F,F,F,F,F] rfl rfl (any_of HT_.out (by kernel_rfl)) (fun _ _ _ h => h) (Or.inl ⟨by rfl,?_⟩) ?_ ?_
          rotate_left
          ·intro w'
           go_simp
           with_reducible rfl
          rotate_left
          ·simp only [Act.put,Q2,Q0,Q1,i64_w,i32_w]
           rfl
          refine take_ (i:=1) (N:=some 118) (v:=?_) (a':=?_) #[T,T,T,F,F,T,F,T,F,F,F,F,F,F,F,F,F,F,F,F,F,F,F,F,F,F] rfl rfl (take_ofW HT_.out HW_.out (by kernel_rfl)) (fun _ _ _ h => h) (Or.inl ⟨by rfl,?_⟩) hHeld ?_ ?_
          rotate_left
          ·rintro w' ⟨s0,s1,s2,s3,s4,s5⟩
           go_simp
           with_reducible rfl
          rotate_left
          ·simp only [Act.put,Q2,Q0,Q1,i64_w,i32_w]
           rfl
          refine take_ (i:=3) (N:=some 120) (v:=?_) (a':=?_) #[T,T,T,T,F,T,F,T,F,F,F,F,F,F,F,F,F,F,F,F,F,F,F,F,F,F] rfl rfl (take_ofW HT_.out HW_.out (by kernel_rfl)) (fun _ _ _ h => h) (Or.inl ⟨by rfl,?_⟩) hHeld ?_ ?_
          rotate_left
          ·rintro w' ⟨s0,s1,s2,s3,s4,s5⟩
           go_simp
           with_reducible rfl
          rotate_left
          ·simp only [Act.put,Q2,Q0,Q1,i64_w,i32_w]
           rfl
          refine take_ (i:=6) (N:=some 123) (v:=?_) (a':=?_) #[T,T,T,T,F,T,T,T,F,F,F,F,F,F,F,F,F,F,F,F,F,F,F,F,F,F] rfl rfl (take_ofW HT_.out HW_.out (by kernel_rfl)) (fun _ _ _ h => h) (Or.inl ⟨by rfl,?_⟩) hHeld ?_ ?_
          rotate_left
          ·rintro w' ⟨s0,s1,s2,s3,s4,s5⟩
           go_simp
           with_reducible rfl
          rotate_left
          ·simp only [Act.put,Q2,Q0,Q1,i64_w,i32_w]
           rfl
          refine take_ (i:=8) (N:=some 125) (v:=?_) (a':=?_) #[T,T,T,T,F,T,T,T,T,F,F,F,F,F,F,F,F,F,F,F,F,F,F,F,F,F] rfl rfl (take_ofW HT_.out HW_.out (by kernel_rfl)) (fun _ _ _ h => h) (Or.inl ⟨by rfl,?_⟩) hHeld ?_ ?_
          rotate_left
          ·rintro w' ⟨s0,s1,s2,s3,s4,s5⟩
           go_simp
           with_reducible rfl
          rotate_left
          ·simp only [Act.put,Q2,Q0,Q1,i64_w,i32_w]
           rfl
          refine one_ (i:=4) (N:=some 121) #[T,T,T,T,T,T,T,T,T,F,F,F,F,F,F,F,F,F,F,F,F,F,F,F,F,F] rfl rfl (one_of HT_.out (by kernel_rfl)) (by decide) (fun K hK => ?_)
          refine goes_ Try.func15 (by kernel_rfl) rfl #[.int .i64 (ix3 x114_2 a0 t296 t298),.int .i64 (ix3 x114_2 a1 t297 t299)] (by rfl) rfl rfl (by (try simp only [List.map_toArray,List.map_cons,List.map_nil]);first|done|rfl|(simp only [List.length_drop,List.length_take];rfl)) ?_
          with_reducible refine (signature_Power.calls k2 (ix3 x114_2 a0 t296 t298) (ix3 x114_2 a1 t297 t299) t305 _ A147.out).mono ?_
          rintro e w' ⟨rfl,⟨nd,rfl⟩⟩
          refine ⟨_,rfl,?_⟩
          refine hK.out _ _ ⟨(D5 BK304.out 0).trans rfl,(D5 BK304.out 1).trans rfl,(D5 BK271.out 0).trans rfl,(D5 BK271.out 1).trans rfl,(D5 BK271.out 2).trans rfl,(D5 BK271.out 3).trans rfl⟩ (fun hHeld => ?_)
          clear hK K
          refine norm_ (a':=?_) ?_ ?_
          rotate_left
          ·show Act.put _ (some 121) _ = _
           simp only [Act.put,Q2,Q0,Q1,i64_w,i32_w]
           rfl
          refine one_ (i:=9) (N:=some 126) #[T,T,T,T,T,T,T,T,T,T,F,F,F,F,F,F,F,F,F,F,F,F,F,F,F,F] rfl rfl (one_of HT_.out (by kernel_rfl)) (by decide) (fun K hK => ?_)
          refine goes_ Try.func16 (by kernel_rfl) rfl #[.int .i64 (ix3 x114_2 a0 t296 t298),.int .i64 (ix3 x114_2 a1 t297 t299)] (by rfl) rfl rfl (by (try simp only [List.map_toArray,List.map_cons,List.map_nil]);first|done|rfl|(simp only [List.length_drop,List.length_take];rfl)) ?_
          with_reducible refine (awardingbodyref41_Power.calls k2 (ix3 x114_2 a0 t296 t298) (ix3 x114_2 a1 t297 t299) t306 _ A148.out).mono ?_
          rintro e w' ⟨rfl,⟨nd,rfl⟩⟩
          refine ⟨_,rfl,?_⟩
          refine hK.out _ _ ⟨(D5 BK304.out 0).trans rfl,(D5 BK304.out 1).trans rfl,(D5 BK271.out 0).trans rfl,(D5 BK271.out 1).trans rfl,(D5 BK271.out 2).trans rfl,(D5 BK271.out 3).trans rfl⟩ (fun hHeld => ?_)
          clear hK K
          refine norm_ (a':=?_) ?_ ?_
          rotate_left
          ·show Act.put _ (some 126) _ = _
           simp only [Act.put,Q2,Q0,Q1,i64_w,i32_w]
           rfl
          refine pure_ (i:=10) (N:=some 127) (v:=?_) (a':=?_) #[T,T,T,T,T,T,T,T,T,T,T,F,F,F,F,F,F,F,F,F,F,F,F,F,F,F] rfl rfl (any_of HT_.out (by kernel_rfl)) (fun _ _ _ h => h) (Or.inl ⟨by rfl,?_⟩) ?_ ?_
          rotate_left
          ·intro w'
           go_simp
           with_reducible rfl
          rotate_left
          ·simp only [Act.put,Q2,Q0,Q1,i64_w,i32_w]
           rfl
          refine pure_ (i:=11) (N:=some 128) (v:=?_) (a':=?_) #[T,T,T,T,T,T,T,T,T,T,T,T,F,F,F,F,F,F,F,F,F,F,F,F,F,F] rfl rfl (any_of HT_.out (by kernel_rfl)) (fun _ _ _ h => h) (Or.inl ⟨by rfl,?_⟩) ?_ ?_
          rotate_left
          ·intro w'
           go_simp
           with_reducible rfl
          rotate_left
          ·simp only [Act.put,Q2,Q0,Q1,i64_w,i32_w]
           rfl
          refine pure_ (i:=12) (N:=some 129) (v:=?_) (a':=?_) #[T,T,T,T,T,T,T,T,T,T,T,T,T,F,F,F,F,F,F,F,F,F,F,F,F,F] rfl rfl (any_of HT_.out (by kernel_rfl)) (fun _ _ _ h => h) (Or.inl ⟨by rfl,?_⟩) ?_ ?_
          rotate_left
          ·intro w'
           go_simp
           with_reducible rfl
          rotate_left
          ·simp only [Act.put,Q2,Q0,Q1,i64_w,i32_w]
           rfl
          refine pure_ (i:=14) (N:=some 131) (v:=?_) (a':=?_) #[T,T,T,T,T,T,T,T,T,T,T,T,T,F,T,F,F,F,F,F,F,F,F,F,F,F] rfl rfl (any_of HT_.out (by kernel_rfl)) (fun _ _ _ h => h) (Or.inl ⟨by rfl,?_⟩) ?_ ?_
          rotate_left
          ·intro w'
           go_simp
           with_reducible rfl
          rotate_left
          ·simp only [Act.put,Q2,Q0,Q1,i64_w,i32_w]
           rfl
          refine pure_ (i:=18) (N:=some 135) (v:=?_) (a':=?_) #[T,T,T,T,T,T,T,T,T,T,T,T,T,F,T,F,F,F,T,F,F,F,F,F,F,F] rfl rfl (any_of HT_.out (by kernel_rfl)) (fun _ _ _ h => h) (Or.inl ⟨by rfl,?_⟩) ?_ ?_
          rotate_left
          ·intro w'
           go_simp
           with_reducible rfl
          rotate_left
          ·simp only [Act.put,Q2,Q0,Q1,i64_w,i32_w]
           rfl
          refine pure_ (i:=20) (N:=some 137) (v:=?_) (a':=?_) #[T,T,T,T,T,T,T,T,T,T,T,T,T,F,T,F,F,F,T,F,T,F,F,F,F,F] rfl rfl (any_of HT_.out (by kernel_rfl)) (fun _ _ _ h => h) (Or.inl ⟨by rfl,?_⟩) ?_ ?_
          rotate_left
          ·intro w'
           go_simp
           with_reducible rfl
          rotate_left
          ·simp only [Act.put,Q2,Q0,Q1,i64_w,i32_w]
           rfl
          refine take_ (i:=13) (N:=some 130) (v:=?_) (a':=?_) #[T,T,T,T,T,T,T,T,T,T,T,T,T,T,T,F,F,F,T,F,T,F,F,F,F,F] rfl rfl (take_ofW HT_.out HW_.out (by kernel_rfl)) (fun _ _ _ h => h) (Or.inl ⟨by rfl,?_⟩) hHeld ?_ ?_
          rotate_left
          ·rintro w' ⟨s0,s1,s2,s3,s4,s5⟩
           go_simp
           with_reducible rfl
          rotate_left
          ·simp only [Act.put,Q2,Q0,Q1,i64_w,i32_w]
           rfl
          refine take_ (i:=15) (N:=some 132) (v:=?_) (a':=?_) #[T,T,T,T,T,T,T,T,T,T,T,T,T,T,T,T,F,F,T,F,T,F,F,F,F,F] rfl rfl (take_ofW HT_.out HW_.out (by kernel_rfl)) (fun _ _ _ h => h) (Or.inl ⟨by rfl,?_⟩) hHeld ?_ ?_
          rotate_left
          ·rintro w' ⟨s0,s1,s2,s3,s4,s5⟩
           go_simp
           with_reducible rfl
          rotate_left
          ·simp only [Act.put,Q2,Q0,Q1,i64_w,i32_w]
           rfl
          refine take_ (i:=16) (N:=some 133) (v:=?_) (a':=?_) #[T,T,T,T,T,T,T,T,T,T,T,T,T,T,T,T,T,F,T,F,T,F,F,F,F,F] rfl rfl (take_ofW HT_.out HW_.out (by kernel_rfl)) (fun _ _ _ h => h) (Or.inl ⟨by rfl,?_⟩) hHeld ?_ ?_
          rotate_left
          ·rintro w' ⟨s0,s1,s2,s3,s4,s5⟩
           go_simp
           with_reducible rfl
          rotate_left
          ·simp only [Act.put,Q2,Q0,Q1,i64_w,i32_w]
           rfl
          refine take_ (i:=19) (N:=some 136) (v:=?_) (a':=?_) #[T,T,T,T,T,T,T,T,T,T,T,T,T,T,T,T,T,F,T,T,T,F,F,F,F,F] rfl rfl (take_ofW HT_.out HW_.out (by kernel_rfl)) (fun _ _ _ h => h) (Or.inl ⟨by rfl,?_⟩) hHeld ?_ ?_
          rotate_left
          ·rintro w' ⟨s0,s1,s2,s3,s4,s5⟩
           go_simp
           with_reducible rfl
          rotate_left
          ·simp only [Act.put,Q2,Q0,Q1,i64_w,i32_w]
           rfl
          refine take_ (i:=21) (N:=some 138) (v:=?_) (a':=?_) #[T,T,T,T,T,T,T,T,T,T,T,T,T,T,T,T,T,F,T,T,T,T,F,F,F,F] rfl rfl (take_ofW HT_.out HW_.out (by kernel_rfl)) (fun _ _ _ h => h) (Or.inl ⟨by rfl,?_⟩) hHeld ?_ ?_
          rotate_left
          ·rintro w' ⟨s0,s1,s2,s3,s4,s5⟩
           go_simp
           with_reducible rfl
          rotate_left
          ·simp only [Act.put,Q2,Q0,Q1,i64_w,i32_w]
           rfl
          refine take_ (i:=22) (N:=some 139) (v:=?_) (a':=?_) #[T,T,T,T,T,T,T,T,T,T,T,T,T,T,T,T,T,F,T,T,T,T,T,F,F,F] rfl rfl (take_ofW HT_.out HW_.out (by kernel_rfl)) (fun _ _ _ h => h) (Or.inl ⟨by rfl,?_⟩) hHeld ?_ ?_
          rotate_left
          ·rintro w' ⟨s0,s1,s2,s3,s4,s5⟩
           go_simp
           with_reducible rfl
          rotate_left
          ·simp only [Act.put,Q2,Q0,Q1,i64_w,i32_w]
           rfl
          refine one_ (i:=17) (N:=some 134) #[T,T,T,T,T,T,T,T,T,T,T,T,T,T,T,T,T,T,T,T,T,T,T,F,F,F] rfl rfl (one_of HT_.out (by kernel_rfl)) (by decide) (fun K hK => ?_)
          refine goes_ Try.func17 (by kernel_rfl) rfl #[.int .i64 (ix3 x114_2 a0 t296 t298),.int .i64 (ix3 x114_2 a1 t297 t299),.agg #[.int .u32 a3_0,.int .u32 a3_1,.int .u32 a3_2,.int .u32 a3_3]] (by rfl) rfl rfl (by (try simp only [List.map_toArray,List.map_cons,List.map_nil]);first|done|rfl|(simp only [List.length_drop,List.length_take];rfl)) ?_
          with_reducible refine (signature_Challenge.calls k2 (ix3 x114_2 a0 t296 t298) (ix3 x114_2 a1 t297 t299) a3_0 a3_1 a3_2 a3_3 t307 _ A150.out).mono ?_
          rintro e w154 ⟨rfl,hb⟩
          refine ⟨_,rfl,?_⟩
          have n0_:=AK (D6 (g:=gb271) (o:=.cells #[.int .u32 a3_0,.int .u32 a3_1,.int .u32 a3_2,.int .u32 a3_3] 24 (0,0)) (by (with_reducible repeat (first|refine D1 ?_ _|refine D2 ?_|refine D3 ?_ _));exact BK271.out) hb)
          have n1_:=AK (D6 (g:=gb272) (o:=.cells #[.int .i64 a4_0,.int .i64 a4_1] 26 (0,0)) (by (with_reducible repeat (first|refine D1 ?_ _|refine D2 ?_|refine D3 ?_ _));exact BK272.out) hb)
          have n2_:=AK (D6 (g:=gb281) (o:=.cells #[.int .i64 t278,.int .i64 t279] 26 (0,0)) (by (with_reducible repeat (first|refine D1 ?_ _|refine D2 ?_|refine D3 ?_ _));exact BK281.out) hb)
          have n3_:=AK (D6 (g:=gb285) (o:=.cells #[.int .i64 t282,.int .i64 t283] 26 (0,0)) (by (with_reducible repeat (first|refine D1 ?_ _|refine D2 ?_|refine D3 ?_ _));exact BK285.out) hb)
          have n4_:=AK (D6 (g:=gb289) (o:=.cells #[.int .i64 t286,.int .i64 t287] 26 (0,0)) (by (with_reducible repeat (first|refine D1 ?_ _|refine D2 ?_|refine D3 ?_ _));exact BK289.out) hb)
          have n5_:=AK (D6 (g:=gb293) (o:=.cells #[.int .i64 t290,.int .i64 t291] 26 (0,0)) (by (with_reducible repeat (first|refine D1 ?_ _|refine D2 ?_|refine D3 ?_ _));exact BK293.out) hb)
          have n6_:=AK (D6 (g:=gb304) (o:=.cells #[.int .i64 (ix3 x114_2 a0 t296 t298),.int .i64 (ix3 x114_2 a1 t297 t299)] 34 (0,0)) (by (with_reducible repeat (first|refine D1 ?_ _|refine D2 ?_|refine D3 ?_ _));exact BK304.out) hb)
          have n7_:=AK (below_step (by repeat (first|(with_reducible first|exact HB.out|apply below_alloc|apply D7|apply below_drew1|refine D4 ?_ GE271.out|refine D4 ?_ GE272.out|refine D4 ?_ GE281.out|refine D4 ?_ GE285.out|refine D4 ?_ GE289.out|refine D4 ?_ GE293.out|refine D4 ?_ GE304.out)|exact HB.out)) hb)
          clear BK271
          clear BK272
          clear BK281
          clear BK285
          clear BK289
          clear BK293
          clear BK304
          clear HB
          have BK271:=n0_
          have BK272:=n1_
          have BK281:=n2_
          have BK285:=n3_
          have BK289:=n4_
          have BK293:=n5_
          have BK304:=n6_
          have HB:=n7_
          clear n0_ n1_ n2_ n3_ n4_ n5_ n6_ n7_
          (try clear hb)
          (try clear hb2)
          (try clear hk)
          (try clear hi)
          refine hK.out _ _ ⟨(D5 BK304.out 0).trans rfl,(D5 BK304.out 1).trans rfl,(D5 BK271.out 0).trans rfl,(D5 BK271.out 1).trans rfl,(D5 BK271.out 2).trans rfl,(D5 BK271.out 3).trans rfl⟩ (fun hHeld => ?_)
          clear hK K
          refine norm_ (a':=?_) ?_ ?_
          rotate_left
          ·show Act.put _ (some 134) _ = _
           simp only [Act.put,Q2,Q0,Q1,i64_w,i32_w]
           rfl
          refine one_ (i:=23) (N:=some 140) #[T,T,T,T,T,T,T,T,T,T,T,T,T,T,T,T,T,T,T,T,T,T,T,T,F,F] rfl rfl (one_of HT_.out (by kernel_rfl)) (by decide) (fun K hK => ?_)
          refine goes_ Try.func18 (by kernel_rfl) rfl #[.int .i64 (ix3 x114_2 a0 t296 t298),.int .i64 (ix3 x114_2 a1 t297 t299),.agg #[.int .u32 a3_0,.int .u32 a3_1,.int .u32 a3_2,.int .u32 a3_3]] (by rfl) rfl rfl (by (try simp only [List.map_toArray,List.map_cons,List.map_nil]);first|done|rfl|(simp only [List.length_drop,List.length_take];rfl)) ?_
          with_reducible refine (awardingbodyref41_Challenge.calls k2 (ix3 x114_2 a0 t296 t298) (ix3 x114_2 a1 t297 t299) a3_0 a3_1 a3_2 a3_3 t308 _ A151.out).mono ?_
          rintro e w155 ⟨rfl,hb⟩
          refine ⟨_,rfl,?_⟩
          have n0_:=AK (D6 (g:=gb271) (o:=.cells #[.int .u32 a3_0,.int .u32 a3_1,.int .u32 a3_2,.int .u32 a3_3] 24 (0,0)) (by (with_reducible repeat (first|refine D1 ?_ _|refine D2 ?_|refine D3 ?_ _));exact BK271.out) hb)
          have n1_:=AK (D6 (g:=gb272) (o:=.cells #[.int .i64 a4_0,.int .i64 a4_1] 26 (0,0)) (by (with_reducible repeat (first|refine D1 ?_ _|refine D2 ?_|refine D3 ?_ _));exact BK272.out) hb)
          have n2_:=AK (D6 (g:=gb281) (o:=.cells #[.int .i64 t278,.int .i64 t279] 26 (0,0)) (by (with_reducible repeat (first|refine D1 ?_ _|refine D2 ?_|refine D3 ?_ _));exact BK281.out) hb)
          have n3_:=AK (D6 (g:=gb285) (o:=.cells #[.int .i64 t282,.int .i64 t283] 26 (0,0)) (by (with_reducible repeat (first|refine D1 ?_ _|refine D2 ?_|refine D3 ?_ _));exact BK285.out) hb)
          have n4_:=AK (D6 (g:=gb289) (o:=.cells #[.int .i64 t286,.int .i64 t287] 26 (0,0)) (by (with_reducible repeat (first|refine D1 ?_ _|refine D2 ?_|refine D3 ?_ _));exact BK289.out) hb)
          have n5_:=AK (D6 (g:=gb293) (o:=.cells #[.int .i64 t290,.int .i64 t291] 26 (0,0)) (by (with_reducible repeat (first|refine D1 ?_ _|refine D2 ?_|refine D3 ?_ _));exact BK293.out) hb)
          have n6_:=AK (D6 (g:=gb304) (o:=.cells #[.int .i64 (ix3 x114_2 a0 t296 t298),.int .i64 (ix3 x114_2 a1 t297 t299)] 34 (0,0)) (by (with_reducible repeat (first|refine D1 ?_ _|refine D2 ?_|refine D3 ?_ _));exact BK304.out) hb)
          have n7_:=AK (below_step (by repeat (first|(with_reducible first|exact HB.out|apply below_alloc|apply D7|apply below_drew1|refine D4 ?_ GE271.out|refine D4 ?_ GE272.out|refine D4 ?_ GE281.out|refine D4 ?_ GE285.out|refine D4 ?_ GE289.out|refine D4 ?_ GE293.out|refine D4 ?_ GE304.out)|exact HB.out)) hb)
          clear BK271
          clear BK272
          clear BK281
          clear BK285
          clear BK289
          clear BK293
          clear BK304
          clear HB
          have BK271:=n0_
          have BK272:=n1_
          have BK281:=n2_
          have BK285:=n3_
          have BK289:=n4_
          have BK293:=n5_
          have BK304:=n6_
          have HB:=n7_
          clear n0_ n1_ n2_ n3_ n4_ n5_ n6_ n7_
          (try clear hb)
          (try clear hb2)
          (try clear hk)
          (try clear hi)
          refine hK.out _ _ ⟨(D5 BK304.out 0).trans rfl,(D5 BK304.out 1).trans rfl,(D5 BK271.out 0).trans rfl,(D5 BK271.out 1).trans rfl,(D5 BK271.out 2).trans rfl,(D5 BK271.out 3).trans rfl⟩ (fun hHeld => ?_)
          clear hK K
          refine norm_ (a':=?_) ?_ ?_
          rotate_left
          ·show Act.put _ (some 140) _ = _
           simp only [Act.put,Q2,Q0,Q1,i64_w,i32_w]
           rfl
          refine pure_ (i:=24) (N:=some 141) (v:=?_) (a':=?_) #[T,T,T,T,T,T,T,T,T,T,T,T,T,T,T,T,T,T,T,T,T,T,T,T,T,F] rfl rfl (any_of HT_.out (by kernel_rfl)) (fun _ _ _ h => h) (Or.inl ⟨by rfl,?_⟩) ?_ ?_
          rotate_left
          ·intro w'
           go_simp
           with_reducible rfl
          rotate_left
          ·simp only [Act.put,Q2,Q0,Q1,i64_w,i32_w]
           rfl
          refine pure_ (i:=25) (N:=some 142) (v:=?_) (a':=?_) #[T,T,T,T,T,T,T,T,T,T,T,T,T,T,T,T,T,T,T,T,T,T,T,T,T,T] rfl rfl (any_of HT_.out (by kernel_rfl)) (fun _ _ _ h => h) (Or.inl ⟨by rfl,?_⟩) ?_ ?_
          rotate_left
          ·intro w'
           go_simp
           with_reducible rfl
          rotate_left
          ·simp only [Act.put,Q2,Q0,Q1,i64_w,i32_w]
           rfl
          refine done_ (done_of HT_.out (by kernel_rfl)) ?_
          try go_wp2
          go_meet
          case rel => exact ⟨_,((t307 != t308)),(by first|rfl|(simp;done)|(simp [*];done)),H',⟨by have:=HJ12.out;have:=HK2.out;first|omega|exact Nat.le_refl _⟩,⟨by (with_reducible repeat (first|refine D1 ?_ _|refine D2 ?_|refine D3 ?_ _));exact BK271.out⟩,⟨by (with_reducible repeat (first|refine D1 ?_ _|refine D2 ?_|refine D3 ?_ _));exact BK272.out⟩,⟨by (with_reducible repeat (first|refine D1 ?_ _|refine D2 ?_|refine D3 ?_ _));exact BK281.out⟩,⟨by (with_reducible repeat (first|refine D1 ?_ _|refine D2 ?_|refine D3 ?_ _));exact BK285.out⟩,⟨by (with_reducible repeat (first|refine D1 ?_ _|refine D2 ?_|refine D3 ?_ _));exact BK289.out⟩,⟨by (with_reducible repeat (first|refine D1 ?_ _|refine D2 ?_|refine D3 ?_ _));exact BK293.out⟩,⟨by (with_reducible repeat (first|refine D1 ?_ _|refine D2 ?_|refine D3 ?_ _));exact BK304.out⟩,⟨by repeat (first|(with_reducible first|exact HB.out|apply below_alloc|apply D7|apply below_drew1|refine D4 ?_ GE271.out|refine D4 ?_ GE272.out|refine D4 ?_ GE281.out|refine D4 ?_ GE285.out|refine D4 ?_ GE289.out|refine D4 ?_ GE293.out|refine D4 ?_ GE304.out)|exact HB.out)⟩⟩
         ·rw [if_neg c149] at H
          have c149b0 : (t305 == t306) = false:=beq_eq_false_iff_ne.mpr c149
          have c149b1 : (t305 != t306) = true:=bne_iff_ne.mpr c149
          (first|rw [c149b0]|(simp only [i64_w,i32_w];rw [c149b0])|skip)
          have H':=AK H
          clear H
          try go_wp2
          have n0_ : Aside0 (((w139.setCell ⟨gb304,0,none⟩ (.int .i64 (ix3 x114_2 a0 t296 t298))).setCell ⟨gb304,1,none⟩ (.int .i64 (ix3 x114_2 a1 t297 t299))).heap[gb271]? = some (.cells #[.int .u32 a3_0,.int .u32 a3_1,.int .u32 a3_2,.int .u32 a3_3] 24 (0,0))):=⟨by (with_reducible repeat (first|refine D1 ?_ _|refine D2 ?_|refine D3 ?_ _));refine blk_far ?_ NB271_304.out _;(with_reducible repeat (first|refine D1 ?_ _|refine D2 ?_|refine D3 ?_ _));refine blk_far ?_ NB271_304.out _;(with_reducible repeat (first|refine D1 ?_ _|refine D2 ?_|refine D3 ?_ _));exact BK271.out⟩
          have n1_ : Aside0 (((w139.setCell ⟨gb304,0,none⟩ (.int .i64 (ix3 x114_2 a0 t296 t298))).setCell ⟨gb304,1,none⟩ (.int .i64 (ix3 x114_2 a1 t297 t299))).heap[gb272]? = some (.cells #[.int .i64 a4_0,.int .i64 a4_1] 26 (0,0))):=⟨by (with_reducible repeat (first|refine D1 ?_ _|refine D2 ?_|refine D3 ?_ _));refine blk_far ?_ NB272_304.out _;(with_reducible repeat (first|refine D1 ?_ _|refine D2 ?_|refine D3 ?_ _));refine blk_far ?_ NB272_304.out _;(with_reducible repeat (first|refine D1 ?_ _|refine D2 ?_|refine D3 ?_ _));exact BK272.out⟩
          have n2_ : Aside0 (((w139.setCell ⟨gb304,0,none⟩ (.int .i64 (ix3 x114_2 a0 t296 t298))).setCell ⟨gb304,1,none⟩ (.int .i64 (ix3 x114_2 a1 t297 t299))).heap[gb281]? = some (.cells #[.int .i64 t278,.int .i64 t279] 26 (0,0))):=⟨by (with_reducible repeat (first|refine D1 ?_ _|refine D2 ?_|refine D3 ?_ _));refine blk_far ?_ NB281_304.out _;(with_reducible repeat (first|refine D1 ?_ _|refine D2 ?_|refine D3 ?_ _));refine blk_far ?_ NB281_304.out _;(with_reducible repeat (first|refine D1 ?_ _|refine D2 ?_|refine D3 ?_ _));exact BK281.out⟩
          have n3_ : Aside0 (((w139.setCell ⟨gb304,0,none⟩ (.int .i64 (ix3 x114_2 a0 t296 t298))).setCell ⟨gb304,1,none⟩ (.int .i64 (ix3 x114_2 a1 t297 t299))).heap[gb285]? = some (.cells #[.int .i64 t282,.int .i64 t283] 26 (0,0))):=⟨by (with_reducible repeat (first|refine D1 ?_ _|refine D2 ?_|refine D3 ?_ _));refine blk_far ?_ NB285_304.out _;(with_reducible repeat (first|refine D1 ?_ _|refine D2 ?_|refine D3 ?_ _));refine blk_far ?_ NB285_304.out _;(with_reducible repeat (first|refine D1 ?_ _|refine D2 ?_|refine D3 ?_ _));exact BK285.out⟩
          have n4_ : Aside0 (((w139.setCell ⟨gb304,0,none⟩ (.int .i64 (ix3 x114_2 a0 t296 t298))).setCell ⟨gb304,1,none⟩ (.int .i64 (ix3 x114_2 a1 t297 t299))).heap[gb289]? = some (.cells #[.int .i64 t286,.int .i64 t287] 26 (0,0))):=⟨by (with_reducible repeat (first|refine D1 ?_ _|refine D2 ?_|refine D3 ?_ _));refine blk_far ?_ NB289_304.out _;(with_reducible repeat (first|refine D1 ?_ _|refine D2 ?_|refine D3 ?_ _));refine blk_far ?_ NB289_304.out _;(with_reducible repeat (first|refine D1 ?_ _|refine D2 ?_|refine D3 ?_ _));exact BK289.out⟩
          have n5_ : Aside0 (((w139.setCell ⟨gb304,0,none⟩ (.int .i64 (ix3 x114_2 a0 t296 t298))).setCell ⟨gb304,1,none⟩ (.int .i64 (ix3 x114_2 a1 t297 t299))).heap[gb293]? = some (.cells #[.int .i64 t290,.int .i64 t291] 26 (0,0))):=⟨by (with_reducible repeat (first|refine D1 ?_ _|refine D2 ?_|refine D3 ?_ _));refine blk_far ?_ NB293_304.out _;(with_reducible repeat (first|refine D1 ?_ _|refine D2 ?_|refine D3 ?_ _));refine blk_far ?_ NB293_304.out _;(with_reducible repeat (first|refine D1 ?_ _|refine D2 ?_|refine D3 ?_ _));exact BK293.out⟩
          have n6_ : Aside0 (((w139.setCell ⟨gb304,0,none⟩ (.int .i64 (ix3 x114_2 a0 t296 t298))).setCell ⟨gb304,1,none⟩ (.int .i64 (ix3 x114_2 a1 t297 t299))).heap[gb304]? = some (.cells #[.int .i64 (ix3 x114_2 a0 t296 t298),.int .i64 (ix3 x114_2 a1 t297 t299)] 34 (0,0))):=⟨by (with_reducible repeat (first|refine D1 ?_ _|refine D2 ?_|refine D3 ?_ _));refine blk_put (cs:=#[.int .i64 (ix3 x114_2 a0 t296 t298),.int .i64 0]) ?_ 1 _ rfl;(with_reducible repeat (first|refine D1 ?_ _|refine D2 ?_|refine D3 ?_ _));refine blk_put (cs:=#[.int .i64 0,.int .i64 0]) ?_ 0 _ rfl;(with_reducible repeat (first|refine D1 ?_ _|refine D2 ?_|refine D3 ?_ _));exact BK304.out⟩
          have n7_ : Aside0 (Below w.heap.size w ((w139.setCell ⟨gb304,0,none⟩ (.int .i64 (ix3 x114_2 a0 t296 t298))).setCell ⟨gb304,1,none⟩ (.int .i64 (ix3 x114_2 a1 t297 t299)))):=⟨by repeat (first|(with_reducible first|exact HB.out|apply below_alloc|apply D7|apply below_drew1|refine D4 ?_ GE271.out|refine D4 ?_ GE272.out|refine D4 ?_ GE281.out|refine D4 ?_ GE285.out|refine D4 ?_ GE289.out|refine D4 ?_ GE293.out|refine D4 ?_ GE304.out)|exact HB.out)⟩
          (try clear BK271)
          (try clear BK272)
          (try clear BK281)
          (try clear BK285)
          (try clear BK289)
          (try clear BK293)
          (try clear BK304)
          (try clear HB)
          generalize ((w139.setCell ⟨gb304,0,none⟩ (.int .i64 (ix3 x114_2 a0 t296 t298))).setCell ⟨gb304,1,none⟩ (.int .i64 (ix3 x114_2 a1 t297 t299))) = w156 at n0_ n1_ n2_ n3_ n4_ n5_ n6_ n7_ ⊢
          have BK271:=n0_
          have BK272:=n1_
          have BK281:=n2_
          have BK285:=n3_
          have BK289:=n4_
          have BK293:=n5_
          have BK304:=n6_
          have HB:=n7_
          clear n0_ n1_ n2_ n3_ n4_ n5_ n6_ n7_
          have n0_:=AK (D2 BK271.out)
          have n1_:=AK (D2 BK272.out)
          have n2_:=AK (D2 BK281.out)
          have n3_:=AK (D2 BK285.out)
          have n4_:=AK (D2 BK289.out)
          have n5_:=AK (D2 BK293.out)
          have n6_:=AK (D2 BK304.out)
          have n7_:=AK (below_drew1 HB.out)
          clear BK271
          clear BK272
          clear BK281
          clear BK285
          clear BK289
          clear BK293
          clear BK304
          clear HB
          have BK271:=n0_
          have BK272:=n1_
          have BK281:=n2_
          have BK285:=n3_
          have BK289:=n4_
          have BK293:=n5_
          have BK304:=n6_
          have HB:=n7_
          clear n0_ n1_ n2_ n3_ n4_ n5_ n6_ n7_
          refine start_ (n:=26) (S:=fun w' => w'.cell? ⟨gb304,0,none⟩ = some (.int .i64 (ix3 x114_2 a0 t296 t298)) ∧ w'.cell? ⟨gb304,1,none⟩ = some (.int .i64 (ix3 x114_2 a1 t297 t299))) (ds:=[]) #[F,F,F,F,F,F,F,F,F,F,F,F,F,F,F,F,F,F,F,F,F,F,F,F,F,F] (by kernel_rfl) rfl rfl ⟨(D5 BK304.out 0).trans rfl,(D5 BK304.out 1).trans rfl⟩ (fun hHeld => ?_);refine with_tabW awardingbodylaw41_SignatureExact.tab13 awardingbodylaw41_SignatureExact.bits13 (fun HT_ HW_ => ?_)
          generalize w156.drew = w157 at BK271 BK272 BK281 BK285 BK289 BK293 BK304 HB hHeld ⊢
          refine pure_ (i:=0) (N:=some 117) (v:=?_) (a':=?_) #[T,F,F,F,F,F,F,F,F,F,F,F,F,F,F,F,F,F,F,F,F,F,F,F,F,F] rfl rfl (any_of HT_.out (by kernel_rfl)) (fun _ _ _ h => h) (Or.inl ⟨by rfl,?_⟩) ?_ ?_
          rotate_left
          ·intro w'
           go_simp
           with_reducible rfl
          rotate_left
          ·simp only [Act.put,Q2,Q0,Q1,i64_w,i32_w]
           rfl
          refine pure_ (i:=2) (N:=some 119) (v:=?_) (a':=?_) #[T,F,T,F,F,F,F,F,F,F,F,F,F,F,F,F,F,F,F,F,F,F,F,F,F,F] rfl rfl (any_of HT_.out (by kernel_rfl)) (fun _ _ _ h => h) (Or.inl ⟨by rfl,?_⟩) ?_ ?_
          rotate_left
          ·intro w'
           go_simp
           with_reducible rfl
          rotate_left
          ·simp only [Act.put,Q2,Q0,Q1,i64_w,i32_w]
           rfl
          refine pure_ (i:=5) (N:=some 122) (v:=?_) (a':=?_) #[T,F,T,F,F,T,F,F,F,F,F,F,F,F,F,F,F,F,F,F,F,F,F,F,F,F] rfl rfl (any_of HT_.out (by kernel_rfl)) (fun _ _ _ h => h) (Or.inl ⟨by rfl,?_⟩) ?_ ?_
          rotate_left
          ·intro w'
           go_simp
           with_reducible rfl
          rotate_left
          ·simp only [Act.put,Q2,Q0,Q1,i64_w,i32_w]
           rfl
          refine pure_ (i:=7) (N:=some 124) (v:=?_) (a':=?_) #[T,F,T,F,F,T,F,T,F,F,F,F,F,F,F,F,F,F,F,F,F,F,F,F,F,F] rfl rfl (any_of HT_.out (by kernel_rfl)) (fun _ _ _ h => h) (Or.inl ⟨by rfl,?_⟩) ?_ ?_
          rotate_left
          ·intro w'
           go_simp
           with_reducible rfl
          rotate_left
          ·simp only [Act.put,Q2,Q0,Q1,i64_w,i32_w]
           rfl
          refine take_ (i:=1) (N:=some 118) (v:=?_) (a':=?_) #[T,T,T,F,F,T,F,T,F,F,F,F,F,F,F,F,F,F,F,F,F,F,F,F,F,F] rfl rfl (take_ofW HT_.out HW_.out (by kernel_rfl)) (fun _ _ _ h => h) (Or.inl ⟨by rfl,?_⟩) hHeld ?_ ?_
          rotate_left
          ·rintro w' ⟨s0,s1⟩
           go_simp
           with_reducible rfl
          rotate_left
          ·simp only [Act.put,Q2,Q0,Q1,i64_w,i32_w]
           rfl
          refine take_ (i:=3) (N:=some 120) (v:=?_) (a':=?_) #[T,T,T,T,F,T,F,T,F,F,F,F,F,F,F,F,F,F,F,F,F,F,F,F,F,F] rfl rfl (take_ofW HT_.out HW_.out (by kernel_rfl)) (fun _ _ _ h => h) (Or.inl ⟨by rfl,?_⟩) hHeld ?_ ?_
          rotate_left
          ·rintro w' ⟨s0,s1⟩
           go_simp
           with_reducible rfl
          rotate_left
          ·simp only [Act.put,Q2,Q0,Q1,i64_w,i32_w]
           rfl
          refine take_ (i:=6) (N:=some 123) (v:=?_) (a':=?_) #[T,T,T,T,F,T,T,T,F,F,F,F,F,F,F,F,F,F,F,F,F,F,F,F,F,F] rfl rfl (take_ofW HT_.out HW_.out (by kernel_rfl)) (fun _ _ _ h => h) (Or.inl ⟨by rfl,?_⟩) hHeld ?_ ?_
          rotate_left
          ·rintro w' ⟨s0,s1⟩
           go_simp
           with_reducible rfl
          rotate_left
          ·simp only [Act.put,Q2,Q0,Q1,i64_w,i32_w]
           rfl
          refine take_ (i:=8) (N:=some 125) (v:=?_) (a':=?_) #[T,T,T,T,F,T,T,T,T,F,F,F,F,F,F,F,F,F,F,F,F,F,F,F,F,F] rfl rfl (take_ofW HT_.out HW_.out (by kernel_rfl)) (fun _ _ _ h => h) (Or.inl ⟨by rfl,?_⟩) hHeld ?_ ?_
          rotate_left
          ·rintro w' ⟨s0,s1⟩
           go_simp
           with_reducible rfl
          rotate_left
          ·simp only [Act.put,Q2,Q0,Q1,i64_w,i32_w]
           rfl
          refine one_ (i:=4) (N:=some 121) #[T,T,T,T,T,T,T,T,T,F,F,F,F,F,F,F,F,F,F,F,F,F,F,F,F,F] rfl rfl (one_of HT_.out (by kernel_rfl)) (by decide) (fun K hK => ?_)
          refine goes_ Try.func15 (by kernel_rfl) rfl #[.int .i64 (ix3 x114_2 a0 t296 t298),.int .i64 (ix3 x114_2 a1 t297 t299)] (by rfl) rfl rfl (by (try simp only [List.map_toArray,List.map_cons,List.map_nil]);first|done|rfl|(simp only [List.length_drop,List.length_take];rfl)) ?_
          with_reducible refine (signature_Power.calls k2 (ix3 x114_2 a0 t296 t298) (ix3 x114_2 a1 t297 t299) t305 _ A147.out).mono ?_
          rintro e w' ⟨rfl,⟨nd,rfl⟩⟩
          refine ⟨_,rfl,?_⟩
          refine hK.out _ _ ⟨(D5 BK304.out 0).trans rfl,(D5 BK304.out 1).trans rfl⟩ (fun hHeld => ?_)
          clear hK K
          refine norm_ (a':=?_) ?_ ?_
          rotate_left
          ·show Act.put _ (some 121) _ = _
           simp only [Act.put,Q2,Q0,Q1,i64_w,i32_w]
           rfl
          refine one_ (i:=9) (N:=some 126) #[T,T,T,T,T,T,T,T,T,T,F,F,F,F,F,F,F,F,F,F,F,F,F,F,F,F] rfl rfl (one_of HT_.out (by kernel_rfl)) (by decide) (fun K hK => ?_)
          refine goes_ Try.func16 (by kernel_rfl) rfl #[.int .i64 (ix3 x114_2 a0 t296 t298),.int .i64 (ix3 x114_2 a1 t297 t299)] (by rfl) rfl rfl (by (try simp only [List.map_toArray,List.map_cons,List.map_nil]);first|done|rfl|(simp only [List.length_drop,List.length_take];rfl)) ?_
          with_reducible refine (awardingbodyref41_Power.calls k2 (ix3 x114_2 a0 t296 t298) (ix3 x114_2 a1 t297 t299) t306 _ A148.out).mono ?_
          rintro e w' ⟨rfl,⟨nd,rfl⟩⟩
          refine ⟨_,rfl,?_⟩
          refine hK.out _ _ ⟨(D5 BK304.out 0).trans rfl,(D5 BK304.out 1).trans rfl⟩ (fun hHeld => ?_)
          clear hK K
          refine norm_ (a':=?_) ?_ ?_
          rotate_left
          ·show Act.put _ (some 126) _ = _
           simp only [Act.put,Q2,Q0,Q1,i64_w,i32_w]
           rfl
          refine pure_ (i:=10) (N:=some 127) (v:=?_) (a':=?_) #[T,T,T,T,T,T,T,T,T,T,T,F,F,F,F,F,F,F,F,F,F,F,F,F,F,F] rfl rfl (any_of HT_.out (by kernel_rfl)) (fun _ _ _ h => h) (Or.inl ⟨by rfl,?_⟩) ?_ ?_
          rotate_left
          ·intro w'
           go_simp
           with_reducible rfl
          rotate_left
          ·simp only [Act.put,Q2,Q0,Q1,i64_w,i32_w]
           rfl
          refine pure_ (i:=11) (N:=some 128) (v:=?_) (a':=?_) #[T,T,T,T,T,T,T,T,T,T,T,T,F,F,F,F,F,F,F,F,F,F,F,F,F,F] rfl rfl (any_of HT_.out (by kernel_rfl)) (fun _ _ _ h => h) (Or.inl ⟨by rfl,?_⟩) ?_ ?_
          rotate_left
          ·intro w'
           go_simp
           with_reducible rfl
          rotate_left
          ·simp only [Act.put,Q2,Q0,Q1,i64_w,i32_w]
           rfl
          refine pure_ (i:=12) (N:=some 129) (v:=undef) (a':=?_) #[T,T,T,T,T,T,T,T,T,T,T,T,T,F,F,F,F,F,F,F,F,F,F,F,F,F] rfl rfl (any_of HT_.out (by kernel_rfl)) (fun _ _ _ h => h) (Or.inr ⟨by rfl,rfl⟩) ?_ ?_
          rotate_left
          ·simp only [Act.put,Q2,Q0,Q1,i64_w,i32_w]
           rfl
          refine pure_ (i:=13) (N:=some 130) (v:=undef) (a':=?_) #[T,T,T,T,T,T,T,T,T,T,T,T,T,T,F,F,F,F,F,F,F,F,F,F,F,F] rfl rfl (any_of HT_.out (by kernel_rfl)) (fun _ _ _ h => h) (Or.inr ⟨by rfl,rfl⟩) ?_ ?_
          rotate_left
          ·simp only [Act.put,Q2,Q0,Q1,i64_w,i32_w]
           rfl
          refine pure_ (i:=14) (N:=some 131) (v:=undef) (a':=?_) #[T,T,T,T,T,T,T,T,T,T,T,T,T,T,T,F,F,F,F,F,F,F,F,F,F,F] rfl rfl (any_of HT_.out (by kernel_rfl)) (fun _ _ _ h => h) (Or.inr ⟨by rfl,rfl⟩) ?_ ?_
          rotate_left
          ·simp only [Act.put,Q2,Q0,Q1,i64_w,i32_w]
           rfl
          refine pure_ (i:=15) (N:=some 132) (v:=undef) (a':=?_) #[T,T,T,T,T,T,T,T,T,T,T,T,T,T,T,T,F,F,F,F,F,F,F,F,F,F] rfl rfl (any_of HT_.out (by kernel_rfl)) (fun _ _ _ h => h) (Or.inr ⟨by rfl,rfl⟩) ?_ ?_
          rotate_left
          ·simp only [Act.put,Q2,Q0,Q1,i64_w,i32_w]
           rfl
          refine pure_ (i:=16) (N:=some 133) (v:=undef) (a':=?_) #[T,T,T,T,T,T,T,T,T,T,T,T,T,T,T,T,T,F,F,F,F,F,F,F,F,F] rfl rfl (any_of HT_.out (by kernel_rfl)) (fun _ _ _ h => h) (Or.inr ⟨by rfl,rfl⟩) ?_ ?_
          rotate_left
          ·simp only [Act.put,Q2,Q0,Q1,i64_w,i32_w]
           rfl
          refine pure_ (i:=17) (N:=some 134) (v:=undef) (a':=?_) #[T,T,T,T,T,T,T,T,T,T,T,T,T,T,T,T,T,T,F,F,F,F,F,F,F,F] rfl rfl (any_of HT_.out (by kernel_rfl)) (fun _ _ _ h => h) (Or.inr ⟨by rfl,rfl⟩) ?_ ?_
          rotate_left
          ·simp only [Act.put,Q2,Q0,Q1,i64_w,i32_w]
           rfl
          refine pure_ (i:=18) (N:=some 135) (v:=undef) (a':=?_) #[T,T,T,T,T,T,T,T,T,T,T,T,T,T,T,T,T,T,T,F,F,F,F,F,F,F] rfl rfl (any_of HT_.out (by kernel_rfl)) (fun _ _ _ h => h) (Or.inr ⟨by rfl,rfl⟩) ?_ ?_
          rotate_left
          ·simp only [Act.put,Q2,Q0,Q1,i64_w,i32_w]
           rfl
          refine pure_ (i:=19) (N:=some 136) (v:=undef) (a':=?_) #[T,T,T,T,T,T,T,T,T,T,T,T,T,T,T,T,T,T,T,T,F,F,F,F,F,F] rfl rfl (any_of HT_.out (by kernel_rfl)) (fun _ _ _ h => h) (Or.inr ⟨by rfl,rfl⟩) ?_ ?_
          rotate_left
          ·simp only [Act.put,Q2,Q0,Q1,i64_w,i32_w]
           rfl
          refine pure_ (i:=20) (N:=some 137) (v:=undef) (a':=?_) #[T,T,T,T,T,T,T,T,T,T,T,T,T,T,T,T,T,T,T,T,T,F,F,F,F,F] rfl rfl (any_of HT_.out (by kernel_rfl)) (fun _ _ _ h => h) (Or.inr ⟨by rfl,rfl⟩) ?_ ?_
          rotate_left
          ·simp only [Act.put,Q2,Q0,Q1,i64_w,i32_w]
           rfl
          refine pure_ (i:=21) (N:=some 138) (v:=undef) (a':=?_) #[T,T,T,T,T,T,T,T,T,T,T,T,T,T,T,T,T,T,T,T,T,T,F,F,F,F] rfl rfl (any_of HT_.out (by kernel_rfl)) (fun _ _ _ h => h) (Or.inr ⟨by rfl,rfl⟩) ?_ ?_
          rotate_left
          ·simp only [Act.put,Q2,Q0,Q1,i64_w,i32_w]
           rfl
          refine pure_ (i:=22) (N:=some 139) (v:=undef) (a':=?_) #[T,T,T,T,T,T,T,T,T,T,T,T,T,T,T,T,T,T,T,T,T,T,T,F,F,F] rfl rfl (any_of HT_.out (by kernel_rfl)) (fun _ _ _ h => h) (Or.inr ⟨by rfl,rfl⟩) ?_ ?_
          rotate_left
          ·simp only [Act.put,Q2,Q0,Q1,i64_w,i32_w]
           rfl
          refine pure_ (i:=23) (N:=some 140) (v:=undef) (a':=?_) #[T,T,T,T,T,T,T,T,T,T,T,T,T,T,T,T,T,T,T,T,T,T,T,T,F,F] rfl rfl (any_of HT_.out (by kernel_rfl)) (fun _ _ _ h => h) (Or.inr ⟨by rfl,rfl⟩) ?_ ?_
          rotate_left
          ·simp only [Act.put,Q2,Q0,Q1,i64_w,i32_w]
           rfl
          refine pure_ (i:=24) (N:=some 141) (v:=undef) (a':=?_) #[T,T,T,T,T,T,T,T,T,T,T,T,T,T,T,T,T,T,T,T,T,T,T,T,T,F] rfl rfl (any_of HT_.out (by kernel_rfl)) (fun _ _ _ h => h) (Or.inr ⟨by rfl,rfl⟩) ?_ ?_
          rotate_left
          ·simp only [Act.put,Q2,Q0,Q1,i64_w,i32_w]
           rfl
          refine pure_ (i:=25) (N:=some 142) (v:=?_) (a':=?_) #[T,T,T,T,T,T,T,T,T,T,T,T,T,T,T,T,T,T,T,T,T,T,T,T,T,T] rfl rfl (any_of HT_.out (by kernel_rfl)) (fun _ _ _ h => h) (Or.inl ⟨by rfl,?_⟩) ?_ ?_
          rotate_left
          ·intro w'
           go_simp
           with_reducible rfl
          rotate_left
          ·simp only [Act.put,Q2,Q0,Q1,i64_w,i32_w]
           rfl
          refine done_ (done_of HT_.out (by kernel_rfl)) ?_
          try go_wp2
          go_meet
          case rel => exact ⟨_,(true),(by first|rfl|(simp;done)|(simp [*];done)),H',⟨by have:=HJ12.out;have:=HK2.out;first|omega|exact Nat.le_refl _⟩,⟨by (with_reducible repeat (first|refine D1 ?_ _|refine D2 ?_|refine D3 ?_ _));exact BK271.out⟩,⟨by (with_reducible repeat (first|refine D1 ?_ _|refine D2 ?_|refine D3 ?_ _));exact BK272.out⟩,⟨by (with_reducible repeat (first|refine D1 ?_ _|refine D2 ?_|refine D3 ?_ _));exact BK281.out⟩,⟨by (with_reducible repeat (first|refine D1 ?_ _|refine D2 ?_|refine D3 ?_ _));exact BK285.out⟩,⟨by (with_reducible repeat (first|refine D1 ?_ _|refine D2 ?_|refine D3 ?_ _));exact BK289.out⟩,⟨by (with_reducible repeat (first|refine D1 ?_ _|refine D2 ?_|refine D3 ?_ _));exact BK293.out⟩,⟨by (with_reducible repeat (first|refine D1 ?_ _|refine D2 ?_|refine D3 ?_ _));exact BK304.out⟩,⟨by repeat (first|(with_reducible first|exact HB.out|apply below_alloc|apply D7|apply below_drew1|refine D4 ?_ GE271.out|refine D4 ?_ GE272.out|refine D4 ?_ GE281.out|refine D4 ?_ GE285.out|refine D4 ?_ GE289.out|refine D4 ?_ GE293.out|refine D4 ?_ GE304.out)|exact HB.out)⟩⟩
        case rest =>
         clear HC138
         obtain ⟨kq,x142_137,rfl,HA,HJ137,BK271,BK272,BK281,BK285,BK289,BK293,BK304,HB⟩:=hcut
         cases kq with
         | zero => exact absurd HA.out (by simp [awardingbodylaw41_SignatureExact.j2])
         | succ kj137 =>
          have H:=HA.out
          clear HA
          simp only [awardingbodylaw41_SignatureExact.j2] at H
          by_cases c158 : x142_137 = true
          ·subst c158
           have H1 : (some false) = some r:=by rw [if_pos rfl] at H;exact H
           clear H
           have H:=H1
           clear H1
           obtain rfl:=Option.some.inj H
           go_wp2
           go_ret
           exact ⟨by first|rfl|(simp [errW_none,errW_some] <;> rfl)|(simp [*,errW_none,errW_some] <;> rfl),by repeat (first|(with_reducible first|exact HB.out|apply below_alloc|apply D7|apply below_drew1|refine D4 ?_ GE271.out|refine D4 ?_ GE272.out|refine D4 ?_ GE281.out|refine D4 ?_ GE285.out|refine D4 ?_ GE289.out|refine D4 ?_ GE293.out|refine D4 ?_ GE304.out)|exact HB.out)⟩
          ·replace c158:=Bool.eq_false_iff.mpr c158
           subst c158
           have H1 : (awardingbodylaw41_SignatureExact.l0 kj137 a0 (wrap64 (1 + t273)) (wrap64 (x114_2 + 1)) a3_0 a3_1 a3_2 a3_3 a4_0 a4_1 t290 t291 a0 a1 t296 t297 t298 t299) = some r:=by rw [if_neg (show ¬ (false = true) by decide)] at H;exact H
           clear H
           have H:=H1
           clear H1
           have H':=AK H
           clear H
           go_wp2
           go_roundg kj137
           case measure => have:=HJ12.out;have:=HK2.out;have:=HJ137.out;omega
           case rel => exact ⟨(wrap64 (x114_2 + 1)),(by first|rfl|(simp;done)|(simp [*];done)),H',⟨by have:=HJ12.out;have:=HK2.out;have:=HJ137.out;omega⟩,⟨by (with_reducible repeat (first|refine D1 ?_ _|refine D2 ?_|refine D3 ?_ _));exact BK271.out⟩,⟨by (with_reducible repeat (first|refine D1 ?_ _|refine D2 ?_|refine D3 ?_ _));exact BK272.out⟩,⟨by (with_reducible repeat (first|refine D1 ?_ _|refine D2 ?_|refine D3 ?_ _));exact BK281.out⟩,⟨by (with_reducible repeat (first|refine D1 ?_ _|refine D2 ?_|refine D3 ?_ _));exact BK285.out⟩,⟨by (with_reducible repeat (first|refine D1 ?_ _|refine D2 ?_|refine D3 ?_ _));exact BK289.out⟩,⟨by (with_reducible repeat (first|refine D1 ?_ _|refine D2 ?_|refine D3 ?_ _));exact BK293.out⟩,⟨by repeat (first|(with_reducible first|exact HB.out|apply below_alloc|apply D7|apply below_drew1|refine D4 ?_ GE271.out|refine D4 ?_ GE272.out|refine D4 ?_ GE281.out|refine D4 ?_ GE285.out|refine D4 ?_ GE289.out|refine D4 ?_ GE293.out|refine D4 ?_ GE304.out)|exact HB.out)⟩⟩
       ·rw [if_neg c137] at H
        exact absurd H (by simp)
      ·rw [if_neg c136] at H
       have c136b0 : decide (x114_2 < 3) = false:=decide_eq_false c136
       clear c136
       replace H:=Option.bind_eq_some_iff.mp H
       obtain ⟨⟨t309,t310⟩,A1590,H⟩:=H
       replace H : ((signature_Verify.f k2 t309 a3_0 a3_1 a3_2 a3_3 a4_0 a4_1).bind fun t311 => ((awardingbodyref41_Verify.f k2 t309 a3_0 a3_1 a3_2 a3_3 a4_0 a4_1).bind fun t312 => (if (t311 == t312) = true then ((signature_Verify.f k2 a0 a3_0 a3_1 a3_2 a3_3 a4_0 a4_1).bind fun t313 => ((awardingbodyref41_Verify.f k2 a0 a3_0 a3_1 a3_2 a3_3 a4_0 a4_1).bind fun t314 => (if (t313 == t314) = true then ((signature_Verify.f k2 a0 a3_0 a3_1 a3_2 a3_3 t290 t291).bind fun t315 => ((awardingbodyref41_Verify.f k2 a0 a3_0 a3_1 a3_2 a3_3 t290 t291).bind fun t316 => (if (t315 == t316) = true then ((awardingbodylaw41_sane.f k2).bind fun t317 => (some t317)) else (some false)))) else (some false)))) else (some false)))) = some r:=H
       have A159:=AK A1590
       clear A1590
       replace H:=Option.bind_eq_some_iff.mp H
       obtain ⟨t311,A1600,H⟩:=H
       replace H : ((awardingbodyref41_Verify.f k2 t309 a3_0 a3_1 a3_2 a3_3 a4_0 a4_1).bind fun t312 => (if (t311 == t312) = true then ((signature_Verify.f k2 a0 a3_0 a3_1 a3_2 a3_3 a4_0 a4_1).bind fun t313 => ((awardingbodyref41_Verify.f k2 a0 a3_0 a3_1 a3_2 a3_3 a4_0 a4_1).bind fun t314 => (if (t313 == t314) = true then ((signature_Verify.f k2 a0 a3_0 a3_1 a3_2 a3_3 t290 t291).bind fun t315 => ((awardingbodyref41_Verify.f k2 a0 a3_0 a3_1 a3_2 a3_3 t290 t291).bind fun t316 => (if (t315 == t316) = true then ((awardingbodylaw41_sane.f k2).bind fun t317 => (some t317)) else (some false)))) else (some false)))) else (some false))) = some r:=H
       have A160:=AK A1600
       clear A1600
       replace H:=Option.bind_eq_some_iff.mp H
       obtain ⟨t312,A1610,H⟩:=H
       replace H : (if (t311 == t312) = true then ((signature_Verify.f k2 a0 a3_0 a3_1 a3_2 a3_3 a4_0 a4_1).bind fun t313 => ((awardingbodyref41_Verify.f k2 a0 a3_0 a3_1 a3_2 a3_3 a4_0 a4_1).bind fun t314 => (if (t313 == t314) = true then ((signature_Verify.f k2 a0 a3_0 a3_1 a3_2 a3_3 t290 t291).bind fun t315 => ((awardingbodyref41_Verify.f k2 a0 a3_0 a3_1 a3_2 a3_3 t290 t291).bind fun t316 => (if (t315 == t316) = true then ((awardingbodylaw41_sane.f k2).bind fun t317 => (some t317)) else (some false)))) else (some false)))) else (some false)) = some r:=H
       have A161:=AK A1610
       clear A1610
       by_cases c162 : (t311 == t312) = true
       ·rw [if_pos c162] at H
        have c162b0 : (t311 == t312) = true:=c162
        (try (have c162b1 : decide (t311 = t312) = true:=by simpa using c162))
        (try (have c162b2 : (t311 == t312) = true:=by simpa using c162))
        clear c162
        replace H:=Option.bind_eq_some_iff.mp H
        obtain ⟨t313,A1630,H⟩:=H
        replace H : ((awardingbodyref41_Verify.f k2 a0 a3_0 a3_1 a3_2 a3_3 a4_0 a4_1).bind fun t314 => (if (t313 == t314) = true then ((signature_Verify.f k2 a0 a3_0 a3_1 a3_2 a3_3 t290 t291).bind fun t315 => ((awardingbodyref41_Verify.f k2 a0 a3_0 a3_1 a3_2 a3_3 t290 t291).bind fun t316 => (if (t315 == t316) = true then ((awardingbodylaw41_sane.f k2).bind fun t317 => (some t317)) else (some false)))) else (some false))) = some r:=H
        have A163:=AK A1630
        clear A1630
        replace H:=Option.bind_eq_some_iff.mp H
        obtain ⟨t314,A1640,H⟩:=H
        replace H : (if (t313 == t314) = true then ((signature_Verify.f k2 a0 a3_0 a3_1 a3_2 a3_3 t290 t291).bind fun t315 => ((awardingbodyref41_Verify.f k2 a0 a3_0 a3_1 a3_2 a3_3 t290 t291).bind fun t316 => (if (t315 == t316) = true then ((awardingbodylaw41_sane.f k2).bind fun t317 => (some t317)) else (some false)))) else (some false)) = some r:=H
        have A164:=AK A1640
        clear A1640
        by_cases c165 : (t313 == t314) = true
        ·rw [if_pos c165] at H
         have c165b0 : (t313 == t314) = true:=c165
         (try (have c165b1 : decide (t313 = t314) = true:=by simpa using c165))
         (try (have c165b2 : (t313 == t314) = true:=by simpa using c165))
         clear c165
         replace H:=Option.bind_eq_some_iff.mp H
         obtain ⟨t315,A1660,H⟩:=H
         replace H : ((awardingbodyref41_Verify.f k2 a0 a3_0 a3_1 a3_2 a3_3 t290 t291).bind fun t316 => (if (t315 == t316) = true then ((awardingbodylaw41_sane.f k2).bind fun t317 => (some t317)) else (some false))) = some r:=H
         have A166:=AK A1660
         clear A1660
         replace H:=Option.bind_eq_some_iff.mp H
         obtain ⟨t316,A1670,H⟩:=H
         replace H : (if (t315 == t316) = true then ((awardingbodylaw41_sane.f k2).bind fun t317 => (some t317)) else (some false)) = some r:=H
         have A167:=AK A1670
         clear A1670
         by_cases c168 : (t315 == t316) = true
         ·rw [if_pos c168] at H
          have c168b0 : (t315 == t316) = true:=c168
          (try (have c168b1 : decide (t315 = t316) = true:=by simpa using c168))
          (try (have c168b2 : (t315 == t316) = true:=by simpa using c168))
          clear c168
          replace H:=Option.bind_eq_some_iff.mp H
          obtain ⟨t317,A1690,H⟩:=H
          replace H : (some t317) = some r:=H
          have A169:=AK A1690
          clear A1690
          obtain rfl:=Option.some.inj H
          try go_wp2_with (first|((with_reducible refine gate_callee (f:=10) rfl ?_);refine goesL_ (some 146) rfl rfl Try.func10 (by kernel_rfl) rfl #[.int .i64 (wrap64 (1 + t273))] rfl (by (try simp only [List.map_toArray,List.map_cons,List.map_nil]);first|done|rfl|(simp only [List.length_drop,List.length_take];rfl)) ?_;(with_reducible refine (awardingbodyref41_Public.calls k2 (wrap64 (1 + t273)) t309 t310 _ A159.out).mono ?_);rintro e w' ⟨rfl,⟨nd,rfl⟩⟩;refine ⟨_,rfl,?_⟩))
          (try (rw [drewN_self wr];generalize hq_ : World.drewN wr _ = wr;have n0_ : Aside0 (wr.heap[gb271]? = some (.cells #[.int .u32 a3_0,.int .u32 a3_1,.int .u32 a3_2,.int .u32 a3_3] 24 (0,0))):=⟨by rw [← hq_];exact (by (with_reducible repeat (first|refine D1 ?_ _|refine D2 ?_|refine D3 ?_ _));exact BK271.out)⟩;have n1_ : Aside0 (wr.heap[gb272]? = some (.cells #[.int .i64 a4_0,.int .i64 a4_1] 26 (0,0))):=⟨by rw [← hq_];exact (by (with_reducible repeat (first|refine D1 ?_ _|refine D2 ?_|refine D3 ?_ _));exact BK272.out)⟩;have n2_ : Aside0 (wr.heap[gb281]? = some (.cells #[.int .i64 t278,.int .i64 t279] 26 (0,0))):=⟨by rw [← hq_];exact (by (with_reducible repeat (first|refine D1 ?_ _|refine D2 ?_|refine D3 ?_ _));exact BK281.out)⟩;have n3_ : Aside0 (wr.heap[gb285]? = some (.cells #[.int .i64 t282,.int .i64 t283] 26 (0,0))):=⟨by rw [← hq_];exact (by (with_reducible repeat (first|refine D1 ?_ _|refine D2 ?_|refine D3 ?_ _));exact BK285.out)⟩;have n4_ : Aside0 (wr.heap[gb289]? = some (.cells #[.int .i64 t286,.int .i64 t287] 26 (0,0))):=⟨by rw [← hq_];exact (by (with_reducible repeat (first|refine D1 ?_ _|refine D2 ?_|refine D3 ?_ _));exact BK289.out)⟩;have n5_ : Aside0 (wr.heap[gb293]? = some (.cells #[.int .i64 t290,.int .i64 t291] 26 (0,0))):=⟨by rw [← hq_];exact (by (with_reducible repeat (first|refine D1 ?_ _|refine D2 ?_|refine D3 ?_ _));exact BK293.out)⟩;have n6_ : Aside0 (Below w.heap.size w wr):=⟨by rw [← hq_];exact (by repeat (first|(with_reducible first|exact HB.out|apply below_alloc|apply D7|apply below_drew1|refine D4 ?_ GE271.out|refine D4 ?_ GE272.out|refine D4 ?_ GE281.out|refine D4 ?_ GE285.out|refine D4 ?_ GE289.out|refine D4 ?_ GE293.out)|exact HB.out))⟩;clear BK271 BK272 BK281 BK285 BK289 BK293 HB hq_;have BK271:=n0_;have BK272:=n1_;have BK281:=n2_;have BK285:=n3_;have BK289:=n4_;have BK293:=n5_;have HB:=n6_;clear n0_ n1_ n2_ n3_ n4_ n5_ n6_))
          have n0_:=AK (D2 BK271.out)
          have n1_:=AK (D2 BK272.out)
          have n2_:=AK (D2 BK281.out)
          have n3_:=AK (D2 BK285.out)
          have n4_:=AK (D2 BK289.out)
          have n5_:=AK (D2 BK293.out)
          have n6_:=AK (below_drew1 HB.out)
          clear BK271
          clear BK272
          clear BK281
          clear BK285
          clear BK289
          clear BK293
          clear HB
          have BK271:=n0_
          have BK272:=n1_
          have BK281:=n2_
          have BK285:=n3_
          have BK289:=n4_
          have BK293:=n5_
          have HB:=n6_
          clear n0_ n1_ n2_ n3_ n4_ n5_ n6_
          refine start_ (n:=35) (S:=fun w' => w'.cell? ⟨gb271,0,none⟩ = some (.int .u32 a3_0) ∧ w'.cell? ⟨gb271,1,none⟩ = some (.int .u32 a3_1) ∧ w'.cell? ⟨gb271,2,none⟩ = some (.int .u32 a3_2) ∧ w'.cell? ⟨gb271,3,none⟩ = some (.int .u32 a3_3) ∧ w'.cell? ⟨gb272,0,none⟩ = some (.int .i64 a4_0) ∧ w'.cell? ⟨gb272,1,none⟩ = some (.int .i64 a4_1) ∧ w'.cell? ⟨gb293,0,none⟩ = some (.int .i64 t290) ∧ w'.cell? ⟨gb293,1,none⟩ = some (.int .i64 t291)) (ds:=[]) #[F,F,F,F,F,F,F,F,F,F,F,F,F,F,F,F,F,F,F,F,F,F,F,F,F,F,F,F,F,F,F,F,F,F,F] (by kernel_rfl) rfl rfl ⟨(D5 BK271.out 0).trans rfl,(D5 BK271.out 1).trans rfl,(D5 BK271.out 2).trans rfl,(D5 BK271.out 3).trans rfl,(D5 BK272.out 0).trans rfl,(D5 BK272.out 1).trans rfl,(D5 BK293.out 0).trans rfl,(D5 BK293.out 1).trans rfl⟩ (fun hHeld => ?_);refine with_tabW awardingbodylaw41_SignatureExact.tab17 awardingbodylaw41_SignatureExact.bits17 (fun HT_ HW_ => ?_)
          generalize wr.drew = w170 at BK271 BK272 BK281 BK285 BK289 BK293 HB hHeld ⊢
          refine pure_ (i:=0) (N:=some 149) (v:=?_) (a':=?_) #[T,F,F,F,F,F,F,F,F,F,F,F,F,F,F,F,F,F,F,F,F,F,F,F,F,F,F,F,F,F,F,F,F,F,F] rfl rfl (any_of HT_.out (by kernel_rfl)) (fun _ _ _ h => h) (Or.inl ⟨by rfl,?_⟩) ?_ ?_
          rotate_left
          ·intro w'
           go_simp
           with_reducible rfl
          rotate_left
          ·simp only [Act.put,Q2,Q0,Q1,i64_w,i32_w]
           rfl
          refine pure_ (i:=4) (N:=some 153) (v:=?_) (a':=?_) #[T,F,F,F,T,F,F,F,F,F,F,F,F,F,F,F,F,F,F,F,F,F,F,F,F,F,F,F,F,F,F,F,F,F,F] rfl rfl (any_of HT_.out (by kernel_rfl)) (fun _ _ _ h => h) (Or.inl ⟨by rfl,?_⟩) ?_ ?_
          rotate_left
          ·intro w'
           go_simp
           with_reducible rfl
          rotate_left
          ·simp only [Act.put,Q2,Q0,Q1,i64_w,i32_w]
           rfl
          refine take_ (i:=1) (N:=some 150) (v:=?_) (a':=?_) #[T,T,F,F,T,F,F,F,F,F,F,F,F,F,F,F,F,F,F,F,F,F,F,F,F,F,F,F,F,F,F,F,F,F,F] rfl rfl (take_ofW HT_.out HW_.out (by kernel_rfl)) (fun _ _ _ h => h) (Or.inl ⟨by rfl,?_⟩) hHeld ?_ ?_
          rotate_left
          ·rintro w' ⟨s0,s1,s2,s3,s4,s5,s6,s7⟩
           go_simp
           with_reducible rfl
          rotate_left
          ·simp only [Act.put,Q2,Q0,Q1,i64_w,i32_w]
           rfl
          refine take_ (i:=2) (N:=some 151) (v:=?_) (a':=?_) #[T,T,T,F,T,F,F,F,F,F,F,F,F,F,F,F,F,F,F,F,F,F,F,F,F,F,F,F,F,F,F,F,F,F,F] rfl rfl (take_ofW HT_.out HW_.out (by kernel_rfl)) (fun _ _ _ h => h) (Or.inl ⟨by rfl,?_⟩) hHeld ?_ ?_
          rotate_left
          ·rintro w' ⟨s0,s1,s2,s3,s4,s5,s6,s7⟩
           go_simp
           with_reducible rfl
          rotate_left
          ·simp only [Act.put,Q2,Q0,Q1,i64_w,i32_w]
           rfl
          refine take_ (i:=5) (N:=some 154) (v:=?_) (a':=?_) #[T,T,T,F,T,T,F,F,F,F,F,F,F,F,F,F,F,F,F,F,F,F,F,F,F,F,F,F,F,F,F,F,F,F,F] rfl rfl (take_ofW HT_.out HW_.out (by kernel_rfl)) (fun _ _ _ h => h) (Or.inl ⟨by rfl,?_⟩) hHeld ?_ ?_
          rotate_left
          ·rintro w' ⟨s0,s1,s2,s3,s4,s5,s6,s7⟩
           go_simp
           with_reducible rfl
          rotate_left
          ·simp only [Act.put,Q2,Q0,Q1,i64_w,i32_w]
           rfl
          refine take_ (i:=6) (N:=some 155) (v:=?_) (a':=?_) #[T,T,T,F,T,T,T,F,F,F,F,F,F,F,F,F,F,F,F,F,F,F,F,F,F,F,F,F,F,F,F,F,F,F,F] rfl rfl (take_ofW HT_.out HW_.out (by kernel_rfl)) (fun _ _ _ h => h) (Or.inl ⟨by rfl,?_⟩) hHeld ?_ ?_
          rotate_left
          ·rintro w' ⟨s0,s1,s2,s3,s4,s5,s6,s7⟩
           go_simp
           with_reducible rfl
          rotate_left
          ·simp only [Act.put,Q2,Q0,Q1,i64_w,i32_w]
           rfl
          refine one_ (i:=3) (N:=some 152) #[T,T,T,T,T,T,T,F,F,F,F,F,F,F,F,F,F,F,F,F,F,F,F,F,F,F,F,F,F,F,F,F,F,F,F] rfl rfl (one_of HT_.out (by kernel_rfl)) (by decide) (fun K hK => ?_)
          refine goes_ Try.func19 (by kernel_rfl) rfl #[.int .i64 t309,.agg #[.int .u32 a3_0,.int .u32 a3_1,.int .u32 a3_2,.int .u32 a3_3],.agg #[.int .i64 a4_0,.int .i64 a4_1]] (by rfl) rfl rfl (by (try simp only [List.map_toArray,List.map_cons,List.map_nil]);first|done|rfl|(simp only [List.length_drop,List.length_take];rfl)) ?_
          with_reducible refine (signature_Verify.calls k2 t309 a3_0 a3_1 a3_2 a3_3 a4_0 a4_1 t311 _ A160.out).mono ?_
          rintro e w171 ⟨rfl,hb⟩
          refine ⟨_,rfl,?_⟩
          have n0_:=AK (D6 (g:=gb271) (o:=.cells #[.int .u32 a3_0,.int .u32 a3_1,.int .u32 a3_2,.int .u32 a3_3] 24 (0,0)) (by (with_reducible repeat (first|refine D1 ?_ _|refine D2 ?_|refine D3 ?_ _));exact BK271.out) hb)
          have n1_:=AK (D6 (g:=gb272) (o:=.cells #[.int .i64 a4_0,.int .i64 a4_1] 26 (0,0)) (by (with_reducible repeat (first|refine D1 ?_ _|refine D2 ?_|refine D3 ?_ _));exact BK272.out) hb)
          have n2_:=AK (D6 (g:=gb281) (o:=.cells #[.int .i64 t278,.int .i64 t279] 26 (0,0)) (by (with_reducible repeat (first|refine D1 ?_ _|refine D2 ?_|refine D3 ?_ _));exact BK281.out) hb)
          have n3_:=AK (D6 (g:=gb285) (o:=.cells #[.int .i64 t282,.int .i64 t283] 26 (0,0)) (by (with_reducible repeat (first|refine D1 ?_ _|refine D2 ?_|refine D3 ?_ _));exact BK285.out) hb)
          have n4_:=AK (D6 (g:=gb289) (o:=.cells #[.int .i64 t286,.int .i64 t287] 26 (0,0)) (by (with_reducible repeat (first|refine D1 ?_ _|refine D2 ?_|refine D3 ?_ _));exact BK289.out) hb)
          have n5_:=AK (D6 (g:=gb293) (o:=.cells #[.int .i64 t290,.int .i64 t291] 26 (0,0)) (by (with_reducible repeat (first|refine D1 ?_ _|refine D2 ?_|refine D3 ?_ _));exact BK293.out) hb)
          have n6_:=AK (below_step (by repeat (first|(with_reducible first|exact HB.out|apply below_alloc|apply D7|apply below_drew1|refine D4 ?_ GE271.out|refine D4 ?_ GE272.out|refine D4 ?_ GE281.out|refine D4 ?_ GE285.out|refine D4 ?_ GE289.out|refine D4 ?_ GE293.out)|exact HB.out)) hb)
          clear BK271
          clear BK272
          clear BK281
          clear BK285
          clear BK289
          clear BK293
          clear HB
          have BK271:=n0_
          have BK272:=n1_
          have BK281:=n2_
          have BK285:=n3_
          have BK289:=n4_
          have BK293:=n5_
          have HB:=n6_
          clear n0_ n1_ n2_ n3_ n4_ n5_ n6_
          (try clear hb)
          (try clear hb2)
          (try clear hk)
          (try clear hi)
          refine hK.out _ _ ⟨(D5 BK271.out 0).trans rfl,(D5 BK271.out 1).trans rfl,(D5 BK271.out 2).trans rfl,(D5 BK271.out 3).trans rfl,(D5 BK272.out 0).trans rfl,(D5 BK272.out 1).trans rfl,(D5 BK293.out 0).trans rfl,(D5 BK293.out 1).trans rfl⟩ (fun hHeld => ?_)
          clear hK K
          refine norm_ (a':=?_) ?_ ?_
          rotate_left
          ·show Act.put _ (some 152) _ = _
           simp only [Act.put,Q2,Q0,Q1,i64_w,i32_w]
           rfl
          refine one_ (i:=7) (N:=some 156) #[T,T,T,T,T,T,T,T,F,F,F,F,F,F,F,F,F,F,F,F,F,F,F,F,F,F,F,F,F,F,F,F,F,F,F] rfl rfl (one_of HT_.out (by kernel_rfl)) (by decide) (fun K hK => ?_)
          refine goes_ Try.func20 (by kernel_rfl) rfl #[.int .i64 t309,.agg #[.int .u32 a3_0,.int .u32 a3_1,.int .u32 a3_2,.int .u32 a3_3],.agg #[.int .i64 a4_0,.int .i64 a4_1]] (by rfl) rfl rfl (by (try simp only [List.map_toArray,List.map_cons,List.map_nil]);first|done|rfl|(simp only [List.length_drop,List.length_take];rfl)) ?_
          with_reducible refine (awardingbodyref41_Verify.calls k2 t309 a3_0 a3_1 a3_2 a3_3 a4_0 a4_1 t312 _ A161.out).mono ?_
          rintro e w172 ⟨rfl,hb⟩
          refine ⟨_,rfl,?_⟩
          have n0_:=AK (D6 (g:=gb271) (o:=.cells #[.int .u32 a3_0,.int .u32 a3_1,.int .u32 a3_2,.int .u32 a3_3] 24 (0,0)) (by (with_reducible repeat (first|refine D1 ?_ _|refine D2 ?_|refine D3 ?_ _));exact BK271.out) hb)
          have n1_:=AK (D6 (g:=gb272) (o:=.cells #[.int .i64 a4_0,.int .i64 a4_1] 26 (0,0)) (by (with_reducible repeat (first|refine D1 ?_ _|refine D2 ?_|refine D3 ?_ _));exact BK272.out) hb)
          have n2_:=AK (D6 (g:=gb281) (o:=.cells #[.int .i64 t278,.int .i64 t279] 26 (0,0)) (by (with_reducible repeat (first|refine D1 ?_ _|refine D2 ?_|refine D3 ?_ _));exact BK281.out) hb)
          have n3_:=AK (D6 (g:=gb285) (o:=.cells #[.int .i64 t282,.int .i64 t283] 26 (0,0)) (by (with_reducible repeat (first|refine D1 ?_ _|refine D2 ?_|refine D3 ?_ _));exact BK285.out) hb)
          have n4_:=AK (D6 (g:=gb289) (o:=.cells #[.int .i64 t286,.int .i64 t287] 26 (0,0)) (by (with_reducible repeat (first|refine D1 ?_ _|refine D2 ?_|refine D3 ?_ _));exact BK289.out) hb)
          have n5_:=AK (D6 (g:=gb293) (o:=.cells #[.int .i64 t290,.int .i64 t291] 26 (0,0)) (by (with_reducible repeat (first|refine D1 ?_ _|refine D2 ?_|refine D3 ?_ _));exact BK293.out) hb)
          have n6_:=AK (below_step (by repeat (first|(with_reducible first|exact HB.out|apply below_alloc|apply D7|apply below_drew1|refine D4 ?_ GE271.out|refine D4 ?_ GE272.out|refine D4 ?_ GE281.out|refine D4 ?_ GE285.out|refine D4 ?_ GE289.out|refine D4 ?_ GE293.out)|exact HB.out)) hb)
          clear BK271
          clear BK272
          clear BK281
          clear BK285
          clear BK289
          clear BK293
          clear HB
          have BK271:=n0_
          have BK272:=n1_
          have BK281:=n2_
          have BK285:=n3_
          have BK289:=n4_
          have BK293:=n5_
          have HB:=n6_
          clear n0_ n1_ n2_ n3_ n4_ n5_ n6_
          (try clear hb)
          (try clear hb2)
          (try clear hk)
          (try clear hi)
          refine hK.out _ _ ⟨(D5 BK271.out 0).trans rfl,(D5 BK271.out 1).trans rfl,(D5 BK271.out 2).trans rfl,(D5 BK271.out 3).trans rfl,(D5 BK272.out 0).trans rfl,(D5 BK272.out 1).trans rfl,(D5 BK293.out 0).trans rfl,(D5 BK293.out 1).trans rfl⟩ (fun hHeld => ?_)
          clear hK K
          refine norm_ (a':=?_) ?_ ?_
          rotate_left
          ·show Act.put _ (some 156) _ = _
           simp only [Act.put,Q2,Q0,Q1,i64_w,i32_w]
           rfl
          refine pure_ (i:=8) (N:=some 157) (v:=?_) (a':=?_) #[T,T,T,T,T,T,T,T,T,F,F,F,F,F,F,F,F,F,F,F,F,F,F,F,F,F,F,F,F,F,F,F,F,F,F] rfl rfl (any_of HT_.out (by kernel_rfl)) (fun _ _ _ h => h) (Or.inl ⟨by rfl,?_⟩) ?_ ?_
          rotate_left
          ·intro w'
           go_simp
           with_reducible rfl
          rotate_left
          ·simp only [Act.put,Q2,Q0,Q1,i64_w,i32_w]
           rfl
          refine pure_ (i:=9) (N:=some 158) (v:=?_) (a':=?_) #[T,T,T,T,T,T,T,T,T,T,F,F,F,F,F,F,F,F,F,F,F,F,F,F,F,F,F,F,F,F,F,F,F,F,F] rfl rfl (any_of HT_.out (by kernel_rfl)) (fun _ _ _ h => h) (Or.inl ⟨by rfl,?_⟩) ?_ ?_
          rotate_left
          ·intro w'
           go_simp
           with_reducible rfl
          rotate_left
          ·simp only [Act.put,Q2,Q0,Q1,i64_w,i32_w]
           rfl
          refine pure_ (i:=10) (N:=some 159) (v:=?_) (a':=?_) #[T,T,T,T,T,T,T,T,T,T,T,F,F,F,F,F,F,F,F,F,F,F,F,F,F,F,F,F,F,F,F,F,F,F,F] rfl rfl (any_of HT_.out (by kernel_rfl)) (fun _ _ _ h => h) (Or.inl ⟨by rfl,?_⟩) ?_ ?_
          rotate_left
          ·intro w'
           go_simp
           with_reducible rfl
          rotate_left
          ·simp only [Act.put,Q2,Q0,Q1,i64_w,i32_w]
           rfl
          refine pure_ (i:=14) (N:=some 163) (v:=?_) (a':=?_) #[T,T,T,T,T,T,T,T,T,T,T,F,F,F,T,F,F,F,F,F,F,F,F,F,F,F,F,F,F,F,F,F,F,F,F] rfl rfl (any_of HT_.out (by kernel_rfl)) (fun _ _ _ h => h) (Or.inl ⟨by rfl,?_⟩) ?_ ?_
          rotate_left
          ·intro w'
           go_simp
           with_reducible rfl
          rotate_left
          ·simp only [Act.put,Q2,Q0,Q1,i64_w,i32_w]
           rfl
          refine take_ (i:=11) (N:=some 160) (v:=?_) (a':=?_) #[T,T,T,T,T,T,T,T,T,T,T,T,F,F,T,F,F,F,F,F,F,F,F,F,F,F,F,F,F,F,F,F,F,F,F] rfl rfl (take_ofW HT_.out HW_.out (by kernel_rfl)) (fun _ _ _ h => h) (Or.inl ⟨by rfl,?_⟩) hHeld ?_ ?_
          rotate_left
          ·rintro w' ⟨s0,s1,s2,s3,s4,s5,s6,s7⟩
           go_simp
           with_reducible rfl
          rotate_left
          ·simp only [Act.put,Q2,Q0,Q1,i64_w,i32_w]
           rfl
          refine take_ (i:=12) (N:=some 161) (v:=?_) (a':=?_) #[T,T,T,T,T,T,T,T,T,T,T,T,T,F,T,F,F,F,F,F,F,F,F,F,F,F,F,F,F,F,F,F,F,F,F] rfl rfl (take_ofW HT_.out HW_.out (by kernel_rfl)) (fun _ _ _ h => h) (Or.inl ⟨by rfl,?_⟩) hHeld ?_ ?_
          rotate_left
          ·rintro w' ⟨s0,s1,s2,s3,s4,s5,s6,s7⟩
           go_simp
           with_reducible rfl
          rotate_left
          ·simp only [Act.put,Q2,Q0,Q1,i64_w,i32_w]
           rfl
          refine take_ (i:=15) (N:=some 164) (v:=?_) (a':=?_) #[T,T,T,T,T,T,T,T,T,T,T,T,T,F,T,T,F,F,F,F,F,F,F,F,F,F,F,F,F,F,F,F,F,F,F] rfl rfl (take_ofW HT_.out HW_.out (by kernel_rfl)) (fun _ _ _ h => h) (Or.inl ⟨by rfl,?_⟩) hHeld ?_ ?_
          rotate_left
          ·rintro w' ⟨s0,s1,s2,s3,s4,s5,s6,s7⟩
           go_simp
           with_reducible rfl
          rotate_left
          ·simp only [Act.put,Q2,Q0,Q1,i64_w,i32_w]
           rfl
          refine take_ (i:=16) (N:=some 165) (v:=?_) (a':=?_) #[T,T,T,T,T,T,T,T,T,T,T,T,T,F,T,T,T,F,F,F,F,F,F,F,F,F,F,F,F,F,F,F,F,F,F] rfl rfl (take_ofW HT_.out HW_.out (by kernel_rfl)) (fun _ _ _ h => h) (Or.inl ⟨by rfl,?_⟩) hHeld ?_ ?_
          rotate_left
          ·rintro w' ⟨s0,s1,s2,s3,s4,s5,s6,s7⟩
           go_simp
           with_reducible rfl
          rotate_left
          ·simp only [Act.put,Q2,Q0,Q1,i64_w,i32_w]
           rfl
          refine one_ (i:=13) (N:=some 162) #[T,T,T,T,T,T,T,T,T,T,T,T,T,T,T,T,T,F,F,F,F,F,F,F,F,F,F,F,F,F,F,F,F,F,F] rfl rfl (one_of HT_.out (by kernel_rfl)) (by decide) (fun K hK => ?_)
          refine goes_ Try.func19 (by kernel_rfl) rfl #[.int .i64 a0,.agg #[.int .u32 a3_0,.int .u32 a3_1,.int .u32 a3_2,.int .u32 a3_3],.agg #[.int .i64 a4_0,.int .i64 a4_1]] (by rfl) rfl rfl (by (try simp only [List.map_toArray,List.map_cons,List.map_nil]);first|done|rfl|(simp only [List.length_drop,List.length_take];rfl)) ?_
          with_reducible refine (signature_Verify.calls k2 a0 a3_0 a3_1 a3_2 a3_3 a4_0 a4_1 t313 _ A163.out).mono ?_
          rintro e w173 ⟨rfl,hb⟩
          refine ⟨_,rfl,?_⟩
          have n0_:=AK (D6 (g:=gb271) (o:=.cells #[.int .u32 a3_0,.int .u32 a3_1,.int .u32 a3_2,.int .u32 a3_3] 24 (0,0)) (by (with_reducible repeat (first|refine D1 ?_ _|refine D2 ?_|refine D3 ?_ _));exact BK271.out) hb)
          have n1_:=AK (D6 (g:=gb272) (o:=.cells #[.int .i64 a4_0,.int .i64 a4_1] 26 (0,0)) (by (with_reducible repeat (first|refine D1 ?_ _|refine D2 ?_|refine D3 ?_ _));exact BK272.out) hb)
          have n2_:=AK (D6 (g:=gb281) (o:=.cells #[.int .i64 t278,.int .i64 t279] 26 (0,0)) (by (with_reducible repeat (first|refine D1 ?_ _|refine D2 ?_|refine D3 ?_ _));exact BK281.out) hb)
          have n3_:=AK (D6 (g:=gb285) (o:=.cells #[.int .i64 t282,.int .i64 t283] 26 (0,0)) (by (with_reducible repeat (first|refine D1 ?_ _|refine D2 ?_|refine D3 ?_ _));exact BK285.out) hb)
          have n4_:=AK (D6 (g:=gb289) (o:=.cells #[.int .i64 t286,.int .i64 t287] 26 (0,0)) (by (with_reducible repeat (first|refine D1 ?_ _|refine D2 ?_|refine D3 ?_ _));exact BK289.out) hb)
          have n5_:=AK (D6 (g:=gb293) (o:=.cells #[.int .i64 t290,.int .i64 t291] 26 (0,0)) (by (with_reducible repeat (first|refine D1 ?_ _|refine D2 ?_|refine D3 ?_ _));exact BK293.out) hb)
          have n6_:=AK (below_step (by repeat (first|(with_reducible first|exact HB.out|apply below_alloc|apply D7|apply below_drew1|refine D4 ?_ GE271.out|refine D4 ?_ GE272.out|refine D4 ?_ GE281.out|refine D4 ?_ GE285.out|refine D4 ?_ GE289.out|refine D4 ?_ GE293.out)|exact HB.out)) hb)
          clear BK271
          clear BK272
          clear BK281
          clear BK285
          clear BK289
          clear BK293
          clear HB
          have BK271:=n0_
          have BK272:=n1_
          have BK281:=n2_
          have BK285:=n3_
          have BK289:=n4_
          have BK293:=n5_
          have HB:=n6_
          clear n0_ n1_ n2_ n3_ n4_ n5_ n6_
          (try clear hb)
          (try clear hb2)
          (try clear hk)
          (try clear hi)
          refine hK.out _ _ ⟨(D5 BK271.out 0).trans rfl,(D5 BK271.out 1).trans rfl,(D5 BK271.out 2).trans rfl,(D5 BK271.out 3).trans rfl,(D5 BK272.out 0).trans rfl,(D5 BK272.out 1).trans rfl,(D5 BK293.out 0).trans rfl,(D5 BK293.out 1).trans rfl⟩ (fun hHeld => ?_)
          clear hK K
          refine norm_ (a':=?_) ?_ ?_
          rotate_left
          ·show Act.put _ (some 162) _ = _
           simp only [Act.put,Q2,Q0,Q1,i64_w,i32_w]
           rfl
          refine one_ (i:=17) (N:=some 166) #[T,T,T,T,T,T,T,T,T,T,T,T,T,T,T,T,T,T,F,F,F,F,F,F,F,F,F,F,F,F,F,F,F,F,F] rfl rfl (one_of HT_.out (by kernel_rfl)) (by decide) (fun K hK => ?_)
          refine goes_ Try.func20 (by kernel_rfl) rfl #[.int .i64 a0,.agg #[.int .u32 a3_0,.int .u32 a3_1,.int .u32 a3_2,.int .u32 a3_3],.agg #[.int .i64 a4_0,.int .i64 a4_1]] (by rfl) rfl rfl (by (try simp only [List.map_toArray,List.map_cons,List.map_nil]);first|done|rfl|(simp only [List.length_drop,List.length_take];rfl)) ?_
          with_reducible refine (awardingbodyref41_Verify.calls k2 a0 a3_0 a3_1 a3_2 a3_3 a4_0 a4_1 t314 _ A164.out).mono ?_
          rintro e w174 ⟨rfl,hb⟩
          refine ⟨_,rfl,?_⟩
          have n0_:=AK (D6 (g:=gb271) (o:=.cells #[.int .u32 a3_0,.int .u32 a3_1,.int .u32 a3_2,.int .u32 a3_3] 24 (0,0)) (by (with_reducible repeat (first|refine D1 ?_ _|refine D2 ?_|refine D3 ?_ _));exact BK271.out) hb)
          have n1_:=AK (D6 (g:=gb272) (o:=.cells #[.int .i64 a4_0,.int .i64 a4_1] 26 (0,0)) (by (with_reducible repeat (first|refine D1 ?_ _|refine D2 ?_|refine D3 ?_ _));exact BK272.out) hb)
          have n2_:=AK (D6 (g:=gb281) (o:=.cells #[.int .i64 t278,.int .i64 t279] 26 (0,0)) (by (with_reducible repeat (first|refine D1 ?_ _|refine D2 ?_|refine D3 ?_ _));exact BK281.out) hb)
          have n3_:=AK (D6 (g:=gb285) (o:=.cells #[.int .i64 t282,.int .i64 t283] 26 (0,0)) (by (with_reducible repeat (first|refine D1 ?_ _|refine D2 ?_|refine D3 ?_ _));exact BK285.out) hb)
          have n4_:=AK (D6 (g:=gb289) (o:=.cells #[.int .i64 t286,.int .i64 t287] 26 (0,0)) (by (with_reducible repeat (first|refine D1 ?_ _|refine D2 ?_|refine D3 ?_ _));exact BK289.out) hb)
          have n5_:=AK (D6 (g:=gb293) (o:=.cells #[.int .i64 t290,.int .i64 t291] 26 (0,0)) (by (with_reducible repeat (first|refine D1 ?_ _|refine D2 ?_|refine D3 ?_ _));exact BK293.out) hb)
          have n6_:=AK (below_step (by repeat (first|(with_reducible first|exact HB.out|apply below_alloc|apply D7|apply below_drew1|refine D4 ?_ GE271.out|refine D4 ?_ GE272.out|refine D4 ?_ GE281.out|refine D4 ?_ GE285.out|refine D4 ?_ GE289.out|refine D4 ?_ GE293.out)|exact HB.out)) hb)
          clear BK271
          clear BK272
          clear BK281
          clear BK285
          clear BK289
          clear BK293
          clear HB
          have BK271:=n0_
          have BK272:=n1_
          have BK281:=n2_
          have BK285:=n3_
          have BK289:=n4_
          have BK293:=n5_
          have HB:=n6_
          clear n0_ n1_ n2_ n3_ n4_ n5_ n6_
          (try clear hb)
          (try clear hb2)
          (try clear hk)
          (try clear hi)
          refine hK.out _ _ ⟨(D5 BK271.out 0).trans rfl,(D5 BK271.out 1).trans rfl,(D5 BK271.out 2).trans rfl,(D5 BK271.out 3).trans rfl,(D5 BK272.out 0).trans rfl,(D5 BK272.out 1).trans rfl,(D5 BK293.out 0).trans rfl,(D5 BK293.out 1).trans rfl⟩ (fun hHeld => ?_)
          clear hK K
          refine norm_ (a':=?_) ?_ ?_
          rotate_left
          ·show Act.put _ (some 166) _ = _
           simp only [Act.put,Q2,Q0,Q1,i64_w,i32_w]
           rfl
          refine pure_ (i:=18) (N:=some 167) (v:=?_) (a':=?_) #[T,T,T,T,T,T,T,T,T,T,T,T,T,T,T,T,T,T,T,F,F,F,F,F,F,F,F,F,F,F,F,F,F,F,F] rfl rfl (any_of HT_.out (by kernel_rfl)) (fun _ _ _ h => h) (Or.inl ⟨by rfl,?_⟩) ?_ ?_
          rotate_left
          ·intro w'
           go_simp
           with_reducible rfl
          rotate_left
          ·simp only [Act.put,Q2,Q0,Q1,i64_w,i32_w]
           rfl
          refine pure_ (i:=19) (N:=some 168) (v:=?_) (a':=?_) #[T,T,T,T,T,T,T,T,T,T,T,T,T,T,T,T,T,T,T,T,F,F,F,F,F,F,F,F,F,F,F,F,F,F,F] rfl rfl (any_of HT_.out (by kernel_rfl)) (fun _ _ _ h => h) (Or.inl ⟨by rfl,?_⟩) ?_ ?_
          rotate_left
          ·intro w'
           go_simp
           with_reducible rfl
          rotate_left
          ·simp only [Act.put,Q2,Q0,Q1,i64_w,i32_w]
           rfl
          refine pure_ (i:=20) (N:=some 169) (v:=?_) (a':=?_) #[T,T,T,T,T,T,T,T,T,T,T,T,T,T,T,T,T,T,T,T,T,F,F,F,F,F,F,F,F,F,F,F,F,F,F] rfl rfl (any_of HT_.out (by kernel_rfl)) (fun _ _ _ h => h) (Or.inl ⟨by rfl,?_⟩) ?_ ?_
          rotate_left
          ·intro w'
           go_simp
           with_reducible rfl
          rotate_left
          ·simp only [Act.put,Q2,Q0,Q1,i64_w,i32_w]
           rfl
          refine pure_ (i:=21) (N:=some 170) (v:=?_) (a':=?_) #[T,T,T,T,T,T,T,T,T,T,T,T,T,T,T,T,T,T,T,T,T,T,F,F,F,F,F,F,F,F,F,F,F,F,F] rfl rfl (any_of HT_.out (by kernel_rfl)) (fun _ _ _ h => h) (Or.inl ⟨by rfl,?_⟩) ?_ ?_
          rotate_left
          ·intro w'
           go_simp
           with_reducible rfl
          rotate_left
          ·simp only [Act.put,Q2,Q0,Q1,i64_w,i32_w]
           rfl
          refine pure_ (i:=25) (N:=some 174) (v:=?_) (a':=?_) #[T,T,T,T,T,T,T,T,T,T,T,T,T,T,T,T,T,T,T,T,T,T,F,F,F,T,F,F,F,F,F,F,F,F,F] rfl rfl (any_of HT_.out (by kernel_rfl)) (fun _ _ _ h => h) (Or.inl ⟨by rfl,?_⟩) ?_ ?_
          rotate_left
          ·intro w'
           go_simp
           with_reducible rfl
          rotate_left
          ·simp only [Act.put,Q2,Q0,Q1,i64_w,i32_w]
           rfl
          refine take_ (i:=22) (N:=some 171) (v:=?_) (a':=?_) #[T,T,T,T,T,T,T,T,T,T,T,T,T,T,T,T,T,T,T,T,T,T,T,F,F,T,F,F,F,F,F,F,F,F,F] rfl rfl (take_ofW HT_.out HW_.out (by kernel_rfl)) (fun _ _ _ h => h) (Or.inl ⟨by rfl,?_⟩) hHeld ?_ ?_
          rotate_left
          ·rintro w' ⟨s0,s1,s2,s3,s4,s5,s6,s7⟩
           go_simp
           with_reducible rfl
          rotate_left
          ·simp only [Act.put,Q2,Q0,Q1,i64_w,i32_w]
           rfl
          refine take_ (i:=23) (N:=some 172) (v:=?_) (a':=?_) #[T,T,T,T,T,T,T,T,T,T,T,T,T,T,T,T,T,T,T,T,T,T,T,T,F,T,F,F,F,F,F,F,F,F,F] rfl rfl (take_ofW HT_.out HW_.out (by kernel_rfl)) (fun _ _ _ h => h) (Or.inl ⟨by rfl,?_⟩) hHeld ?_ ?_
          rotate_left
          ·rintro w' ⟨s0,s1,s2,s3,s4,s5,s6,s7⟩
           go_simp
           with_reducible rfl
          rotate_left
          ·simp only [Act.put,Q2,Q0,Q1,i64_w,i32_w]
           rfl
          refine take_ (i:=26) (N:=some 175) (v:=?_) (a':=?_) #[T,T,T,T,T,T,T,T,T,T,T,T,T,T,T,T,T,T,T,T,T,T,T,T,F,T,T,F,F,F,F,F,F,F,F] rfl rfl (take_ofW HT_.out HW_.out (by kernel_rfl)) (fun _ _ _ h => h) (Or.inl ⟨by rfl,?_⟩) hHeld ?_ ?_
          rotate_left
          ·rintro w' ⟨s0,s1,s2,s3,s4,s5,s6,s7⟩
           go_simp
           with_reducible rfl
          rotate_left
          ·simp only [Act.put,Q2,Q0,Q1,i64_w,i32_w]
           rfl
          refine take_ (i:=27) (N:=some 176) (v:=?_) (a':=?_) #[T,T,T,T,T,T,T,T,T,T,T,T,T,T,T,T,T,T,T,T,T,T,T,T,F,T,T,T,F,F,F,F,F,F,F] rfl rfl (take_ofW HT_.out HW_.out (by kernel_rfl)) (fun _ _ _ h => h) (Or.inl ⟨by rfl,?_⟩) hHeld ?_ ?_
          rotate_left
          ·rintro w' ⟨s0,s1,s2,s3,s4,s5,s6,s7⟩
           go_simp
           with_reducible rfl
          rotate_left
          ·simp only [Act.put,Q2,Q0,Q1,i64_w,i32_w]
           rfl
          refine one_ (i:=24) (N:=some 173) #[T,T,T,T,T,T,T,T,T,T,T,T,T,T,T,T,T,T,T,T,T,T,T,T,T,T,T,T,F,F,F,F,F,F,F] rfl rfl (one_of HT_.out (by kernel_rfl)) (by decide) (fun K hK => ?_)
          refine goes_ Try.func19 (by kernel_rfl) rfl #[.int .i64 a0,.agg #[.int .u32 a3_0,.int .u32 a3_1,.int .u32 a3_2,.int .u32 a3_3],.agg #[.int .i64 t290,.int .i64 t291]] (by rfl) rfl rfl (by (try simp only [List.map_toArray,List.map_cons,List.map_nil]);first|done|rfl|(simp only [List.length_drop,List.length_take];rfl)) ?_
          with_reducible refine (signature_Verify.calls k2 a0 a3_0 a3_1 a3_2 a3_3 t290 t291 t315 _ A166.out).mono ?_
          rintro e w175 ⟨rfl,hb⟩
          refine ⟨_,rfl,?_⟩
          have n0_:=AK (D6 (g:=gb271) (o:=.cells #[.int .u32 a3_0,.int .u32 a3_1,.int .u32 a3_2,.int .u32 a3_3] 24 (0,0)) (by (with_reducible repeat (first|refine D1 ?_ _|refine D2 ?_|refine D3 ?_ _));exact BK271.out) hb)
          have n1_:=AK (D6 (g:=gb272) (o:=.cells #[.int .i64 a4_0,.int .i64 a4_1] 26 (0,0)) (by (with_reducible repeat (first|refine D1 ?_ _|refine D2 ?_|refine D3 ?_ _));exact BK272.out) hb)
          have n2_:=AK (D6 (g:=gb281) (o:=.cells #[.int .i64 t278,.int .i64 t279] 26 (0,0)) (by (with_reducible repeat (first|refine D1 ?_ _|refine D2 ?_|refine D3 ?_ _));exact BK281.out) hb)
          have n3_:=AK (D6 (g:=gb285) (o:=.cells #[.int .i64 t282,.int .i64 t283] 26 (0,0)) (by (with_reducible repeat (first|refine D1 ?_ _|refine D2 ?_|refine D3 ?_ _));exact BK285.out) hb)
          have n4_:=AK (D6 (g:=gb289) (o:=.cells #[.int .i64 t286,.int .i64 t287] 26 (0,0)) (by (with_reducible repeat (first|refine D1 ?_ _|refine D2 ?_|refine D3 ?_ _));exact BK289.out) hb)
          have n5_:=AK (D6 (g:=gb293) (o:=.cells #[.int .i64 t290,.int .i64 t291] 26 (0,0)) (by (with_reducible repeat (first|refine D1 ?_ _|refine D2 ?_|refine D3 ?_ _));exact BK293.out) hb)
          have n6_:=AK (below_step (by repeat (first|(with_reducible first|exact HB.out|apply below_alloc|apply D7|apply below_drew1|refine D4 ?_ GE271.out|refine D4 ?_ GE272.out|refine D4 ?_ GE281.out|refine D4 ?_ GE285.out|refine D4 ?_ GE289.out|refine D4 ?_ GE293.out)|exact HB.out)) hb)
          clear BK271
          clear BK272
          clear BK281
          clear BK285
          clear BK289
          clear BK293
          clear HB
          have BK271:=n0_
          have BK272:=n1_
          have BK281:=n2_
          have BK285:=n3_
          have BK289:=n4_
          have BK293:=n5_
          have HB:=n6_
          clear n0_ n1_ n2_ n3_ n4_ n5_ n6_
          (try clear hb)
          (try clear hb2)
          (try clear hk)
          (try clear hi)
          refine hK.out _ _ ⟨(D5 BK271.out 0).trans rfl,(D5 BK271.out 1).trans rfl,(D5 BK271.out 2).trans rfl,(D5 BK271.out 3).trans rfl,(D5 BK272.out 0).trans rfl,(D5 BK272.out 1).trans rfl,(D5 BK293.out 0).trans rfl,(D5 BK293.out 1).trans rfl⟩ (fun hHeld => ?_)
          clear hK K
          refine norm_ (a':=?_) ?_ ?_
          rotate_left
          ·show Act.put _ (some 173) _ = _
           simp only [Act.put,Q2,Q0,Q1,i64_w,i32_w]
           rfl
          refine one_ (i:=28) (N:=some 177) #[T,T,T,T,T,T,T,T,T,T,T,T,T,T,T,T,T,T,T,T,T,T,T,T,T,T,T,T,T,F,F,F,F,F,F] rfl rfl (one_of HT_.out (by kernel_rfl)) (by decide) (fun K hK => ?_)
          refine goes_ Try.func20 (by kernel_rfl) rfl #[.int .i64 a0,.agg #[.int .u32 a3_0,.int .u32 a3_1,.int .u32 a3_2,.int .u32 a3_3],.agg #[.int .i64 t290,.int .i64 t291]] (by rfl) rfl rfl (by (try simp only [List.map_toArray,List.map_cons,List.map_nil]);first|done|rfl|(simp only [List.length_drop,List.length_take];rfl)) ?_
          with_reducible refine (awardingbodyref41_Verify.calls k2 a0 a3_0 a3_1 a3_2 a3_3 t290 t291 t316 _ A167.out).mono ?_
          rintro e w176 ⟨rfl,hb⟩
          refine ⟨_,rfl,?_⟩
          have n0_:=AK (D6 (g:=gb271) (o:=.cells #[.int .u32 a3_0,.int .u32 a3_1,.int .u32 a3_2,.int .u32 a3_3] 24 (0,0)) (by (with_reducible repeat (first|refine D1 ?_ _|refine D2 ?_|refine D3 ?_ _));exact BK271.out) hb)
          have n1_:=AK (D6 (g:=gb272) (o:=.cells #[.int .i64 a4_0,.int .i64 a4_1] 26 (0,0)) (by (with_reducible repeat (first|refine D1 ?_ _|refine D2 ?_|refine D3 ?_ _));exact BK272.out) hb)
          have n2_:=AK (D6 (g:=gb281) (o:=.cells #[.int .i64 t278,.int .i64 t279] 26 (0,0)) (by (with_reducible repeat (first|refine D1 ?_ _|refine D2 ?_|refine D3 ?_ _));exact BK281.out) hb)
          have n3_:=AK (D6 (g:=gb285) (o:=.cells #[.int .i64 t282,.int .i64 t283] 26 (0,0)) (by (with_reducible repeat (first|refine D1 ?_ _|refine D2 ?_|refine D3 ?_ _));exact BK285.out) hb)
          have n4_:=AK (D6 (g:=gb289) (o:=.cells #[.int .i64 t286,.int .i64 t287] 26 (0,0)) (by (with_reducible repeat (first|refine D1 ?_ _|refine D2 ?_|refine D3 ?_ _));exact BK289.out) hb)
          have n5_:=AK (D6 (g:=gb293) (o:=.cells #[.int .i64 t290,.int .i64 t291] 26 (0,0)) (by (with_reducible repeat (first|refine D1 ?_ _|refine D2 ?_|refine D3 ?_ _));exact BK293.out) hb)
          have n6_:=AK (below_step (by repeat (first|(with_reducible first|exact HB.out|apply below_alloc|apply D7|apply below_drew1|refine D4 ?_ GE271.out|refine D4 ?_ GE272.out|refine D4 ?_ GE281.out|refine D4 ?_ GE285.out|refine D4 ?_ GE289.out|refine D4 ?_ GE293.out)|exact HB.out)) hb)
          clear BK271
          clear BK272
          clear BK281
          clear BK285
          clear BK289
          clear BK293
          clear HB
          have BK271:=n0_
          have BK272:=n1_
          have BK281:=n2_
          have BK285:=n3_
          have BK289:=n4_
          have BK293:=n5_
          have HB:=n6_
          clear n0_ n1_ n2_ n3_ n4_ n5_ n6_
          (try clear hb)
          (try clear hb2)
          (try clear hk)
          (try clear hi)
          refine hK.out _ _ ⟨(D5 BK271.out 0).trans rfl,(D5 BK271.out 1).trans rfl,(D5 BK271.out 2).trans rfl,(D5 BK271.out 3).trans rfl,(D5 BK272.out 0).trans rfl,(D5 BK272.out 1).trans rfl,(D5 BK293.out 0).trans rfl,(D5 BK293.out 1).trans rfl⟩ (fun hHeld => ?_)
          clear hK K
          refine norm_ (a':=?_) ?_ ?_
          rotate_left
          ·show Act.put _ (some 177) _ = _
           simp only [Act.put,Q2,Q0,Q1,i64_w,i32_w]
           rfl
          refine pure_ (i:=29) (N:=some 178) (v:=?_) (a':=?_) #[T,T,T,T,T,T,T,T,T,T,T,T,T,T,T,T,T,T,T,T,T,T,T,T,T,T,T,T,T,T,F,F,F,F,F] rfl rfl (any_of HT_.out (by kernel_rfl)) (fun _ _ _ h => h) (Or.inl ⟨by rfl,?_⟩) ?_ ?_
          rotate_left
          ·intro w'
           go_simp
           with_reducible rfl
          rotate_left
          ·simp only [Act.put,Q2,Q0,Q1,i64_w,i32_w]
           rfl
          refine pure_ (i:=30) (N:=some 179) (v:=?_) (a':=?_) #[T,T,T,T,T,T,T,T,T,T,T,T,T,T,T,T,T,T,T,T,T,T,T,T,T,T,T,T,T,T,T,F,F,F,F] rfl rfl (any_of HT_.out (by kernel_rfl)) (fun _ _ _ h => h) (Or.inl ⟨by rfl,?_⟩) ?_ ?_
          rotate_left
          ·intro w'
           go_simp
           with_reducible rfl
          rotate_left
          ·simp only [Act.put,Q2,Q0,Q1,i64_w,i32_w]
           rfl
          refine pure_ (i:=31) (N:=some 180) (v:=?_) (a':=?_) #[T,T,T,T,T,T,T,T,T,T,T,T,T,T,T,T,T,T,T,T,T,T,T,T,T,T,T,T,T,T,T,T,F,F,F] rfl rfl (any_of HT_.out (by kernel_rfl)) (fun _ _ _ h => h) (Or.inl ⟨by rfl,?_⟩) ?_ ?_
          rotate_left
          ·intro w'
           go_simp
           with_reducible rfl
          rotate_left
          ·simp only [Act.put,Q2,Q0,Q1,i64_w,i32_w]
           rfl
          refine one_ (i:=32) (N:=some 181) #[T,T,T,T,T,T,T,T,T,T,T,T,T,T,T,T,T,T,T,T,T,T,T,T,T,T,T,T,T,T,T,T,T,F,F] rfl rfl (one_of HT_.out (by kernel_rfl)) (by decide) (fun K hK => ?_)
          refine goes_ Try.func21 (by kernel_rfl) rfl #[] (by rfl) rfl rfl (by (try simp only [List.map_toArray,List.map_cons,List.map_nil]);first|done|rfl|(simp only [List.length_drop,List.length_take];rfl)) ?_
          with_reducible refine (awardingbodylaw41_sane.calls k2  t317 _ A169.out).mono ?_
          rintro e w177 ⟨rfl,hb⟩
          refine ⟨_,rfl,?_⟩
          have n0_:=AK (D6 (g:=gb271) (o:=.cells #[.int .u32 a3_0,.int .u32 a3_1,.int .u32 a3_2,.int .u32 a3_3] 24 (0,0)) (by (with_reducible repeat (first|refine D1 ?_ _|refine D2 ?_|refine D3 ?_ _));exact BK271.out) hb)
          have n1_:=AK (D6 (g:=gb272) (o:=.cells #[.int .i64 a4_0,.int .i64 a4_1] 26 (0,0)) (by (with_reducible repeat (first|refine D1 ?_ _|refine D2 ?_|refine D3 ?_ _));exact BK272.out) hb)
          have n2_:=AK (D6 (g:=gb281) (o:=.cells #[.int .i64 t278,.int .i64 t279] 26 (0,0)) (by (with_reducible repeat (first|refine D1 ?_ _|refine D2 ?_|refine D3 ?_ _));exact BK281.out) hb)
          have n3_:=AK (D6 (g:=gb285) (o:=.cells #[.int .i64 t282,.int .i64 t283] 26 (0,0)) (by (with_reducible repeat (first|refine D1 ?_ _|refine D2 ?_|refine D3 ?_ _));exact BK285.out) hb)
          have n4_:=AK (D6 (g:=gb289) (o:=.cells #[.int .i64 t286,.int .i64 t287] 26 (0,0)) (by (with_reducible repeat (first|refine D1 ?_ _|refine D2 ?_|refine D3 ?_ _));exact BK289.out) hb)
          have n5_:=AK (D6 (g:=gb293) (o:=.cells #[.int .i64 t290,.int .i64 t291] 26 (0,0)) (by (with_reducible repeat (first|refine D1 ?_ _|refine D2 ?_|refine D3 ?_ _));exact BK293.out) hb)
          have n6_:=AK (below_step (by repeat (first|(with_reducible first|exact HB.out|apply below_alloc|apply D7|apply below_drew1|refine D4 ?_ GE271.out|refine D4 ?_ GE272.out|refine D4 ?_ GE281.out|refine D4 ?_ GE285.out|refine D4 ?_ GE289.out|refine D4 ?_ GE293.out)|exact HB.out)) hb)
          clear BK271
          clear BK272
          clear BK281
          clear BK285
          clear BK289
          clear BK293
          clear HB
          have BK271:=n0_
          have BK272:=n1_
          have BK281:=n2_
          have BK285:=n3_
          have BK289:=n4_
          have BK293:=n5_
          have HB:=n6_
          clear n0_ n1_ n2_ n3_ n4_ n5_ n6_
          (try clear hb)
          (try clear hb2)
          (try clear hk)
          (try clear hi)
          refine hK.out _ _ ⟨(D5 BK271.out 0).trans rfl,(D5 BK271.out 1).trans rfl,(D5 BK271.out 2).trans rfl,(D5 BK271.out 3).trans rfl,(D5 BK272.out 0).trans rfl,(D5 BK272.out 1).trans rfl,(D5 BK293.out 0).trans rfl,(D5 BK293.out 1).trans rfl⟩ (fun hHeld => ?_)
          clear hK K
          refine norm_ (a':=?_) ?_ ?_
          rotate_left
          ·show Act.put _ (some 181) _ = _
           simp only [Act.put,Q2,Q0,Q1,i64_w,i32_w]
           rfl
          refine pure_ (i:=33) (N:=some 182) (v:=?_) (a':=?_) #[T,T,T,T,T,T,T,T,T,T,T,T,T,T,T,T,T,T,T,T,T,T,T,T,T,T,T,T,T,T,T,T,T,T,F] rfl rfl (any_of HT_.out (by kernel_rfl)) (fun _ _ _ h => h) (Or.inl ⟨by rfl,?_⟩) ?_ ?_
          rotate_left
          ·intro w'
           go_simp
           with_reducible rfl
          rotate_left
          ·simp only [Act.put,Q2,Q0,Q1,i64_w,i32_w]
           rfl
          refine pure_ (i:=34) (N:=some 10) (v:=?_) (a':=?_) #[T,T,T,T,T,T,T,T,T,T,T,T,T,T,T,T,T,T,T,T,T,T,T,T,T,T,T,T,T,T,T,T,T,T,T] rfl rfl (any_of HT_.out (by kernel_rfl)) (fun _ _ _ h => h) (Or.inl ⟨by rfl,?_⟩) ?_ ?_
          rotate_left
          ·intro w'
           go_simp
           with_reducible rfl
          rotate_left
          ·simp only [Act.put,Q2,Q0,Q1,i64_w,i32_w]
           rfl
          refine done_ (done_of HT_.out (by kernel_rfl)) ?_
          try go_wp2
          go_ret
          exact ⟨by first|rfl|(simp [errW_none,errW_some] <;> rfl)|(simp [*,errW_none,errW_some] <;> rfl),by repeat (first|(with_reducible first|exact HB.out|apply below_alloc|apply D7|apply below_drew1|refine D4 ?_ GE271.out|refine D4 ?_ GE272.out|refine D4 ?_ GE281.out|refine D4 ?_ GE285.out|refine D4 ?_ GE289.out|refine D4 ?_ GE293.out)|exact HB.out)⟩
         ·rw [if_neg c168] at H
          have c168b0 : (t315 == t316) = false:=by simpa using c168
          (try (have c168b1 : decide (t315 = t316) = false:=by simpa using c168))
          (try (have c168b2 : (t315 == t316) = false:=by simpa using c168))
          (try (have c168b3 : ¬ (t315 = t316):=by simpa using c168))
          clear c168
          obtain rfl:=Option.some.inj H
          try go_wp2_with (first|((with_reducible refine gate_callee (f:=10) rfl ?_);refine goesL_ (some 146) rfl rfl Try.func10 (by kernel_rfl) rfl #[.int .i64 (wrap64 (1 + t273))] rfl (by (try simp only [List.map_toArray,List.map_cons,List.map_nil]);first|done|rfl|(simp only [List.length_drop,List.length_take];rfl)) ?_;(with_reducible refine (awardingbodyref41_Public.calls k2 (wrap64 (1 + t273)) t309 t310 _ A159.out).mono ?_);rintro e w' ⟨rfl,⟨nd,rfl⟩⟩;refine ⟨_,rfl,?_⟩))
          (try (rw [drewN_self wr];generalize hq_ : World.drewN wr _ = wr;have n0_ : Aside0 (wr.heap[gb271]? = some (.cells #[.int .u32 a3_0,.int .u32 a3_1,.int .u32 a3_2,.int .u32 a3_3] 24 (0,0))):=⟨by rw [← hq_];exact (by (with_reducible repeat (first|refine D1 ?_ _|refine D2 ?_|refine D3 ?_ _));exact BK271.out)⟩;have n1_ : Aside0 (wr.heap[gb272]? = some (.cells #[.int .i64 a4_0,.int .i64 a4_1] 26 (0,0))):=⟨by rw [← hq_];exact (by (with_reducible repeat (first|refine D1 ?_ _|refine D2 ?_|refine D3 ?_ _));exact BK272.out)⟩;have n2_ : Aside0 (wr.heap[gb281]? = some (.cells #[.int .i64 t278,.int .i64 t279] 26 (0,0))):=⟨by rw [← hq_];exact (by (with_reducible repeat (first|refine D1 ?_ _|refine D2 ?_|refine D3 ?_ _));exact BK281.out)⟩;have n3_ : Aside0 (wr.heap[gb285]? = some (.cells #[.int .i64 t282,.int .i64 t283] 26 (0,0))):=⟨by rw [← hq_];exact (by (with_reducible repeat (first|refine D1 ?_ _|refine D2 ?_|refine D3 ?_ _));exact BK285.out)⟩;have n4_ : Aside0 (wr.heap[gb289]? = some (.cells #[.int .i64 t286,.int .i64 t287] 26 (0,0))):=⟨by rw [← hq_];exact (by (with_reducible repeat (first|refine D1 ?_ _|refine D2 ?_|refine D3 ?_ _));exact BK289.out)⟩;have n5_ : Aside0 (wr.heap[gb293]? = some (.cells #[.int .i64 t290,.int .i64 t291] 26 (0,0))):=⟨by rw [← hq_];exact (by (with_reducible repeat (first|refine D1 ?_ _|refine D2 ?_|refine D3 ?_ _));exact BK293.out)⟩;have n6_ : Aside0 (Below w.heap.size w wr):=⟨by rw [← hq_];exact (by repeat (first|(with_reducible first|exact HB.out|apply below_alloc|apply D7|apply below_drew1|refine D4 ?_ GE271.out|refine D4 ?_ GE272.out|refine D4 ?_ GE281.out|refine D4 ?_ GE285.out|refine D4 ?_ GE289.out|refine D4 ?_ GE293.out)|exact HB.out))⟩;clear BK271 BK272 BK281 BK285 BK289 BK293 HB hq_;have BK271:=n0_;have BK272:=n1_;have BK281:=n2_;have BK285:=n3_;have BK289:=n4_;have BK293:=n5_;have HB:=n6_;clear n0_ n1_ n2_ n3_ n4_ n5_ n6_))
          have n0_:=AK (D2 BK271.out)
          have n1_:=AK (D2 BK272.out)
          have n2_:=AK (D2 BK281.out)
          have n3_:=AK (D2 BK285.out)
          have n4_:=AK (D2 BK289.out)
          have n5_:=AK (D2 BK293.out)
          have n6_:=AK (below_drew1 HB.out)
          clear BK271
          clear BK272
          clear BK281
          clear BK285
          clear BK289
          clear BK293
          clear HB
          have BK271:=n0_
          have BK272:=n1_
          have BK281:=n2_
          have BK285:=n3_
          have BK289:=n4_
          have BK293:=n5_
          have HB:=n6_
          clear n0_ n1_ n2_ n3_ n4_ n5_ n6_
          refine start_ (n:=35) (S:=fun w' => w'.cell? ⟨gb271,0,none⟩ = some (.int .u32 a3_0) ∧ w'.cell? ⟨gb271,1,none⟩ = some (.int .u32 a3_1) ∧ w'.cell? ⟨gb271,2,none⟩ = some (.int .u32 a3_2) ∧ w'.cell? ⟨gb271,3,none⟩ = some (.int .u32 a3_3) ∧ w'.cell? ⟨gb272,0,none⟩ = some (.int .i64 a4_0) ∧ w'.cell? ⟨gb272,1,none⟩ = some (.int .i64 a4_1) ∧ w'.cell? ⟨gb293,0,none⟩ = some (.int .i64 t290) ∧ w'.cell? ⟨gb293,1,none⟩ = some (.int .i64 t291)) (ds:=[]) #[F,F,F,F,F,F,F,F,F,F,F,F,F,F,F,F,F,F,F,F,F,F,F,F,F,F,F,F,F,F,F,F,F,F,F] (by kernel_rfl) rfl rfl ⟨(D5 BK271.out 0).trans rfl,(D5 BK271.out 1).trans rfl,(D5 BK271.out 2).trans rfl,(D5 BK271.out 3).trans rfl,(D5 BK272.out 0).trans rfl,(D5 BK272.out 1).trans rfl,(D5 BK293.out 0).trans rfl,(D5 BK293.out 1).trans rfl⟩ (fun hHeld => ?_);refine with_tabW awardingbodylaw41_SignatureExact.tab17 awardingbodylaw41_SignatureExact.bits17 (fun HT_ HW_ => ?_)
          generalize wr.drew = w178 at BK271 BK272 BK281 BK285 BK289 BK293 HB hHeld ⊢
          refine pure_ (i:=0) (N:=some 149) (v:=?_) (a':=?_) #[T,F,F,F,F,F,F,F,F,F,F,F,F,F,F,F,F,F,F,F,F,F,F,F,F,F,F,F,F,F,F,F,F,F,F] rfl rfl (any_of HT_.out (by kernel_rfl)) (fun _ _ _ h => h) (Or.inl ⟨by rfl,?_⟩) ?_ ?_
          rotate_left
          ·intro w'
           go_simp
           with_reducible rfl
          rotate_left
          ·simp only [Act.put,Q2,Q0,Q1,i64_w,i32_w]
           rfl
          refine pure_ (i:=4) (N:=some 153) (v:=?_) (a':=?_) #[T,F,F,F,T,F,F,F,F,F,F,F,F,F,F,F,F,F,F,F,F,F,F,F,F,F,F,F,F,F,F,F,F,F,F] rfl rfl (any_of HT_.out (by kernel_rfl)) (fun _ _ _ h => h) (Or.inl ⟨by rfl,?_⟩) ?_ ?_
          rotate_left
          ·intro w'
           go_simp
           with_reducible rfl
          rotate_left
          ·simp only [Act.put,Q2,Q0,Q1,i64_w,i32_w]
           rfl
          refine take_ (i:=1) (N:=some 150) (v:=?_) (a':=?_) #[T,T,F,F,T,F,F,F,F,F,F,F,F,F,F,F,F,F,F,F,F,F,F,F,F,F,F,F,F,F,F,F,F,F,F] rfl rfl (take_ofW HT_.out HW_.out (by kernel_rfl)) (fun _ _ _ h => h) (Or.inl ⟨by rfl,?_⟩) hHeld ?_ ?_
          rotate_left
          ·rintro w' ⟨s0,s1,s2,s3,s4,s5,s6,s7⟩
           go_simp
           with_reducible rfl
          rotate_left
          ·simp only [Act.put,Q2,Q0,Q1,i64_w,i32_w]
           rfl
          refine take_ (i:=2) (N:=some 151) (v:=?_) (a':=?_) #[T,T,T,F,T,F,F,F,F,F,F,F,F,F,F,F,F,F,F,F,F,F,F,F,F,F,F,F,F,F,F,F,F,F,F] rfl rfl (take_ofW HT_.out HW_.out (by kernel_rfl)) (fun _ _ _ h => h) (Or.inl ⟨by rfl,?_⟩) hHeld ?_ ?_
          rotate_left
          ·rintro w' ⟨s0,s1,s2,s3,s4,s5,s6,s7⟩
           go_simp
           with_reducible rfl
          rotate_left
          ·simp only [Act.put,Q2,Q0,Q1,i64_w,i32_w]
           rfl
          refine take_ (i:=5) (N:=some 154) (v:=?_) (a':=?_) #[T,T,T,F,T,T,F,F,F,F,F,F,F,F,F,F,F,F,F,F,F,F,F,F,F,F,F,F,F,F,F,F,F,F,F] rfl rfl (take_ofW HT_.out HW_.out (by kernel_rfl)) (fun _ _ _ h => h) (Or.inl ⟨by rfl,?_⟩) hHeld ?_ ?_
          rotate_left
          ·rintro w' ⟨s0,s1,s2,s3,s4,s5,s6,s7⟩
           go_simp
           with_reducible rfl
          rotate_left
          ·simp only [Act.put,Q2,Q0,Q1,i64_w,i32_w]
           rfl
          refine take_ (i:=6) (N:=some 155) (v:=?_) (a':=?_) #[T,T,T,F,T,T,T,F,F,F,F,F,F,F,F,F,F,F,F,F,F,F,F,F,F,F,F,F,F,F,F,F,F,F,F] rfl rfl (take_ofW HT_.out HW_.out (by kernel_rfl)) (fun _ _ _ h => h) (Or.inl ⟨by rfl,?_⟩) hHeld ?_ ?_
          rotate_left
          ·rintro w' ⟨s0,s1,s2,s3,s4,s5,s6,s7⟩
           go_simp
           with_reducible rfl
          rotate_left
          ·simp only [Act.put,Q2,Q0,Q1,i64_w,i32_w]
           rfl
          refine one_ (i:=3) (N:=some 152) #[T,T,T,T,T,T,T,F,F,F,F,F,F,F,F,F,F,F,F,F,F,F,F,F,F,F,F,F,F,F,F,F,F,F,F] rfl rfl (one_of HT_.out (by kernel_rfl)) (by decide) (fun K hK => ?_)
          refine goes_ Try.func19 (by kernel_rfl) rfl #[.int .i64 t309,.agg #[.int .u32 a3_0,.int .u32 a3_1,.int .u32 a3_2,.int .u32 a3_3],.agg #[.int .i64 a4_0,.int .i64 a4_1]] (by rfl) rfl rfl (by (try simp only [List.map_toArray,List.map_cons,List.map_nil]);first|done|rfl|(simp only [List.length_drop,List.length_take];rfl)) ?_
          with_reducible refine (signature_Verify.calls k2 t309 a3_0 a3_1 a3_2 a3_3 a4_0 a4_1 t311 _ A160.out).mono ?_
          rintro e w179 ⟨rfl,hb⟩
          refine ⟨_,rfl,?_⟩
          have n0_:=AK (D6 (g:=gb271) (o:=.cells #[.int .u32 a3_0,.int .u32 a3_1,.int .u32 a3_2,.int .u32 a3_3] 24 (0,0)) (by (with_reducible repeat (first|refine D1 ?_ _|refine D2 ?_|refine D3 ?_ _));exact BK271.out) hb)
          have n1_:=AK (D6 (g:=gb272) (o:=.cells #[.int .i64 a4_0,.int .i64 a4_1] 26 (0,0)) (by (with_reducible repeat (first|refine D1 ?_ _|refine D2 ?_|refine D3 ?_ _));exact BK272.out) hb)
          have n2_:=AK (D6 (g:=gb281) (o:=.cells #[.int .i64 t278,.int .i64 t279] 26 (0,0)) (by (with_reducible repeat (first|refine D1 ?_ _|refine D2 ?_|refine D3 ?_ _));exact BK281.out) hb)
          have n3_:=AK (D6 (g:=gb285) (o:=.cells #[.int .i64 t282,.int .i64 t283] 26 (0,0)) (by (with_reducible repeat (first|refine D1 ?_ _|refine D2 ?_|refine D3 ?_ _));exact BK285.out) hb)
          have n4_:=AK (D6 (g:=gb289) (o:=.cells #[.int .i64 t286,.int .i64 t287] 26 (0,0)) (by (with_reducible repeat (first|refine D1 ?_ _|refine D2 ?_|refine D3 ?_ _));exact BK289.out) hb)
          have n5_:=AK (D6 (g:=gb293) (o:=.cells #[.int .i64 t290,.int .i64 t291] 26 (0,0)) (by (with_reducible repeat (first|refine D1 ?_ _|refine D2 ?_|refine D3 ?_ _));exact BK293.out) hb)
          have n6_:=AK (below_step (by repeat (first|(with_reducible first|exact HB.out|apply below_alloc|apply D7|apply below_drew1|refine D4 ?_ GE271.out|refine D4 ?_ GE272.out|refine D4 ?_ GE281.out|refine D4 ?_ GE285.out|refine D4 ?_ GE289.out|refine D4 ?_ GE293.out)|exact HB.out)) hb)
          clear BK271
          clear BK272
          clear BK281
          clear BK285
          clear BK289
          clear BK293
          clear HB
          have BK271:=n0_
          have BK272:=n1_
          have BK281:=n2_
          have BK285:=n3_
          have BK289:=n4_
          have BK293:=n5_
          have HB:=n6_
          clear n0_ n1_ n2_ n3_ n4_ n5_ n6_
          (try clear hb)
          (try clear hb2)
          (try clear hk)
          (try clear hi)
          refine hK.out _ _ ⟨(D5 BK271.out 0).trans rfl,(D5 BK271.out 1).trans rfl,(D5 BK271.out 2).trans rfl,(D5 BK271.out 3).trans rfl,(D5 BK272.out 0).trans rfl,(D5 BK272.out 1).trans rfl,(D5 BK293.out 0).trans rfl,(D5 BK293.out 1).trans rfl⟩ (fun hHeld => ?_)
          clear hK K
          refine norm_ (a':=?_) ?_ ?_
          rotate_left
          ·show Act.put _ (some 152) _ = _
           simp only [Act.put,Q2,Q0,Q1,i64_w,i32_w]
           rfl
          refine one_ (i:=7) (N:=some 156) #[T,T,T,T,T,T,T,T,F,F,F,F,F,F,F,F,F,F,F,F,F,F,F,F,F,F,F,F,F,F,F,F,F,F,F] rfl rfl (one_of HT_.out (by kernel_rfl)) (by decide) (fun K hK => ?_)
          refine goes_ Try.func20 (by kernel_rfl) rfl #[.int .i64 t309,.agg #[.int .u32 a3_0,.int .u32 a3_1,.int .u32 a3_2,.int .u32 a3_3],.agg #[.int .i64 a4_0,.int .i64 a4_1]] (by rfl) rfl rfl (by (try simp only [List.map_toArray,List.map_cons,List.map_nil]);first|done|rfl|(simp only [List.length_drop,List.length_take];rfl)) ?_
          with_reducible refine (awardingbodyref41_Verify.calls k2 t309 a3_0 a3_1 a3_2 a3_3 a4_0 a4_1 t312 _ A161.out).mono ?_
          rintro e w180 ⟨rfl,hb⟩
          refine ⟨_,rfl,?_⟩
          have n0_:=AK (D6 (g:=gb271) (o:=.cells #[.int .u32 a3_0,.int .u32 a3_1,.int .u32 a3_2,.int .u32 a3_3] 24 (0,0)) (by (with_reducible repeat (first|refine D1 ?_ _|refine D2 ?_|refine D3 ?_ _));exact BK271.out) hb)
          have n1_:=AK (D6 (g:=gb272) (o:=.cells #[.int .i64 a4_0,.int .i64 a4_1] 26 (0,0)) (by (with_reducible repeat (first|refine D1 ?_ _|refine D2 ?_|refine D3 ?_ _));exact BK272.out) hb)
          have n2_:=AK (D6 (g:=gb281) (o:=.cells #[.int .i64 t278,.int .i64 t279] 26 (0,0)) (by (with_reducible repeat (first|refine D1 ?_ _|refine D2 ?_|refine D3 ?_ _));exact BK281.out) hb)
          have n3_:=AK (D6 (g:=gb285) (o:=.cells #[.int .i64 t282,.int .i64 t283] 26 (0,0)) (by (with_reducible repeat (first|refine D1 ?_ _|refine D2 ?_|refine D3 ?_ _));exact BK285.out) hb)
          have n4_:=AK (D6 (g:=gb289) (o:=.cells #[.int .i64 t286,.int .i64 t287] 26 (0,0)) (by (with_reducible repeat (first|refine D1 ?_ _|refine D2 ?_|refine D3 ?_ _));exact BK289.out) hb)
          have n5_:=AK (D6 (g:=gb293) (o:=.cells #[.int .i64 t290,.int .i64 t291] 26 (0,0)) (by (with_reducible repeat (first|refine D1 ?_ _|refine D2 ?_|refine D3 ?_ _));exact BK293.out) hb)
          have n6_:=AK (below_step (by repeat (first|(with_reducible first|exact HB.out|apply below_alloc|apply D7|apply below_drew1|refine D4 ?_ GE271.out|refine D4 ?_ GE272.out|refine D4 ?_ GE281.out|refine D4 ?_ GE285.out|refine D4 ?_ GE289.out|refine D4 ?_ GE293.out)|exact HB.out)) hb)
          clear BK271
          clear BK272
          clear BK281
          clear BK285
          clear BK289
          clear BK293
          clear HB
          have BK271:=n0_
          have BK272:=n1_
          have BK281:=n2_
          have BK285:=n3_
          have BK289:=n4_
          have BK293:=n5_
          have HB:=n6_
          clear n0_ n1_ n2_ n3_ n4_ n5_ n6_
          (try clear hb)
          (try clear hb2)
          (try clear hk)
          (try clear hi)
          refine hK.out _ _ ⟨(D5 BK271.out 0).trans rfl,(D5 BK271.out 1).trans rfl,(D5 BK271.out 2).trans rfl,(D5 BK271.out 3).trans rfl,(D5 BK272.out 0).trans rfl,(D5 BK272.out 1).trans rfl,(D5 BK293.out 0).trans rfl,(D5 BK293.out 1).trans rfl⟩ (fun hHeld => ?_)
          clear hK K
          refine norm_ (a':=?_) ?_ ?_
          rotate_left
          ·show Act.put _ (some 156) _ = _
           simp only [Act.put,Q2,Q0,Q1,i64_w,i32_w]
           rfl
          refine pure_ (i:=8) (N:=some 157) (v:=?_) (a':=?_) #[T,T,T,T,T,T,T,T,T,F,F,F,F,F,F,F,F,F,F,F,F,F,F,F,F,F,F,F,F,F,F,F,F,F,F] rfl rfl (any_of HT_.out (by kernel_rfl)) (fun _ _ _ h => h) (Or.inl ⟨by rfl,?_⟩) ?_ ?_
          rotate_left
          ·intro w'
           go_simp
           with_reducible rfl
          rotate_left
          ·simp only [Act.put,Q2,Q0,Q1,i64_w,i32_w]
           rfl
          refine pure_ (i:=9) (N:=some 158) (v:=?_) (a':=?_) #[T,T,T,T,T,T,T,T,T,T,F,F,F,F,F,F,F,F,F,F,F,F,F,F,F,F,F,F,F,F,F,F,F,F,F] rfl rfl (any_of HT_.out (by kernel_rfl)) (fun _ _ _ h => h) (Or.inl ⟨by rfl,?_⟩) ?_ ?_
          rotate_left
          ·intro w'
           go_simp
           with_reducible rfl
          rotate_left
          ·simp only [Act.put,Q2,Q0,Q1,i64_w,i32_w]
           rfl
          refine pure_ (i:=10) (N:=some 159) (v:=?_) (a':=?_) #[T,T,T,T,T,T,T,T,T,T,T,F,F,F,F,F,F,F,F,F,F,F,F,F,F,F,F,F,F,F,F,F,F,F,F] rfl rfl (any_of HT_.out (by kernel_rfl)) (fun _ _ _ h => h) (Or.inl ⟨by rfl,?_⟩) ?_ ?_
          rotate_left
          ·intro w'
           go_simp
           with_reducible rfl
          rotate_left
          ·simp only [Act.put,Q2,Q0,Q1,i64_w,i32_w]
           rfl
          refine pure_ (i:=14) (N:=some 163) (v:=?_) (a':=?_) #[T,T,T,T,T,T,T,T,T,T,T,F,F,F,T,F,F,F,F,F,F,F,F,F,F,F,F,F,F,F,F,F,F,F,F] rfl rfl (any_of HT_.out (by kernel_rfl)) (fun _ _ _ h => h) (Or.inl ⟨by rfl,?_⟩) ?_ ?_
          rotate_left
          ·intro w'
           go_simp
           with_reducible rfl
          rotate_left
          ·simp only [Act.put,Q2,Q0,Q1,i64_w,i32_w]
           rfl
          refine take_ (i:=11) (N:=some 160) (v:=?_) (a':=?_) #[T,T,T,T,T,T,T,T,T,T,T,T,F,F,T,F,F,F,F,F,F,F,F,F,F,F,F,F,F,F,F,F,F,F,F] rfl rfl (take_ofW HT_.out HW_.out (by kernel_rfl)) (fun _ _ _ h => h) (Or.inl ⟨by rfl,?_⟩) hHeld ?_ ?_
          rotate_left
          ·rintro w' ⟨s0,s1,s2,s3,s4,s5,s6,s7⟩
           go_simp
           with_reducible rfl
          rotate_left
          ·simp only [Act.put,Q2,Q0,Q1,i64_w,i32_w]
           rfl
          refine take_ (i:=12) (N:=some 161) (v:=?_) (a':=?_) #[T,T,T,T,T,T,T,T,T,T,T,T,T,F,T,F,F,F,F,F,F,F,F,F,F,F,F,F,F,F,F,F,F,F,F] rfl rfl (take_ofW HT_.out HW_.out (by kernel_rfl)) (fun _ _ _ h => h) (Or.inl ⟨by rfl,?_⟩) hHeld ?_ ?_
          rotate_left
          ·rintro w' ⟨s0,s1,s2,s3,s4,s5,s6,s7⟩
           go_simp
           with_reducible rfl
          rotate_left
          ·simp only [Act.put,Q2,Q0,Q1,i64_w,i32_w]
           rfl
          refine take_ (i:=15) (N:=some 164) (v:=?_) (a':=?_) #[T,T,T,T,T,T,T,T,T,T,T,T,T,F,T,T,F,F,F,F,F,F,F,F,F,F,F,F,F,F,F,F,F,F,F] rfl rfl (take_ofW HT_.out HW_.out (by kernel_rfl)) (fun _ _ _ h => h) (Or.inl ⟨by rfl,?_⟩) hHeld ?_ ?_
          rotate_left
          ·rintro w' ⟨s0,s1,s2,s3,s4,s5,s6,s7⟩
           go_simp
           with_reducible rfl
          rotate_left
          ·simp only [Act.put,Q2,Q0,Q1,i64_w,i32_w]
           rfl
          refine take_ (i:=16) (N:=some 165) (v:=?_) (a':=?_) #[T,T,T,T,T,T,T,T,T,T,T,T,T,F,T,T,T,F,F,F,F,F,F,F,F,F,F,F,F,F,F,F,F,F,F] rfl rfl (take_ofW HT_.out HW_.out (by kernel_rfl)) (fun _ _ _ h => h) (Or.inl ⟨by rfl,?_⟩) hHeld ?_ ?_
          rotate_left
          ·rintro w' ⟨s0,s1,s2,s3,s4,s5,s6,s7⟩
           go_simp
           with_reducible rfl
          rotate_left
          ·simp only [Act.put,Q2,Q0,Q1,i64_w,i32_w]
           rfl
          refine one_ (i:=13) (N:=some 162) #[T,T,T,T,T,T,T,T,T,T,T,T,T,T,T,T,T,F,F,F,F,F,F,F,F,F,F,F,F,F,F,F,F,F,F] rfl rfl (one_of HT_.out (by kernel_rfl)) (by decide) (fun K hK => ?_)
          refine goes_ Try.func19 (by kernel_rfl) rfl #[.int .i64 a0,.agg #[.int .u32 a3_0,.int .u32 a3_1,.int .u32 a3_2,.int .u32 a3_3],.agg #[.int .i64 a4_0,.int .i64 a4_1]] (by rfl) rfl rfl (by (try simp only [List.map_toArray,List.map_cons,List.map_nil]);first|done|rfl|(simp only [List.length_drop,List.length_take];rfl)) ?_
          with_reducible refine (signature_Verify.calls k2 a0 a3_0 a3_1 a3_2 a3_3 a4_0 a4_1 t313 _ A163.out).mono ?_
          rintro e w181 ⟨rfl,hb⟩
          refine ⟨_,rfl,?_⟩
          have n0_:=AK (D6 (g:=gb271) (o:=.cells #[.int .u32 a3_0,.int .u32 a3_1,.int .u32 a3_2,.int .u32 a3_3] 24 (0,0)) (by (with_reducible repeat (first|refine D1 ?_ _|refine D2 ?_|refine D3 ?_ _));exact BK271.out) hb)
          have n1_:=AK (D6 (g:=gb272) (o:=.cells #[.int .i64 a4_0,.int .i64 a4_1] 26 (0,0)) (by (with_reducible repeat (first|refine D1 ?_ _|refine D2 ?_|refine D3 ?_ _));exact BK272.out) hb)
          have n2_:=AK (D6 (g:=gb281) (o:=.cells #[.int .i64 t278,.int .i64 t279] 26 (0,0)) (by (with_reducible repeat (first|refine D1 ?_ _|refine D2 ?_|refine D3 ?_ _));exact BK281.out) hb)
          have n3_:=AK (D6 (g:=gb285) (o:=.cells #[.int .i64 t282,.int .i64 t283] 26 (0,0)) (by (with_reducible repeat (first|refine D1 ?_ _|refine D2 ?_|refine D3 ?_ _));exact BK285.out) hb)
          have n4_:=AK (D6 (g:=gb289) (o:=.cells #[.int .i64 t286,.int .i64 t287] 26 (0,0)) (by (with_reducible repeat (first|refine D1 ?_ _|refine D2 ?_|refine D3 ?_ _));exact BK289.out) hb)
          have n5_:=AK (D6 (g:=gb293) (o:=.cells #[.int .i64 t290,.int .i64 t291] 26 (0,0)) (by (with_reducible repeat (first|refine D1 ?_ _|refine D2 ?_|refine D3 ?_ _));exact BK293.out) hb)
          have n6_:=AK (below_step (by repeat (first|(with_reducible first|exact HB.out|apply below_alloc|apply D7|apply below_drew1|refine D4 ?_ GE271.out|refine D4 ?_ GE272.out|refine D4 ?_ GE281.out|refine D4 ?_ GE285.out|refine D4 ?_ GE289.out|refine D4 ?_ GE293.out)|exact HB.out)) hb)
          clear BK271
          clear BK272
          clear BK281
          clear BK285
          clear BK289
          clear BK293
          clear HB
          have BK271:=n0_
          have BK272:=n1_
          have BK281:=n2_
          have BK285:=n3_
          have BK289:=n4_
          have BK293:=n5_
          have HB:=n6_
          clear n0_ n1_ n2_ n3_ n4_ n5_ n6_
          (try clear hb)
          (try clear hb2)
          (try clear hk)
          (try clear hi)
          refine hK.out _ _ ⟨(D5 BK271.out 0).trans rfl,(D5 BK271.out 1).trans rfl,(D5 BK271.out 2).trans rfl,(D5 BK271.out 3).trans rfl,(D5 BK272.out 0).trans rfl,(D5 BK272.out 1).trans rfl,(D5 BK293.out 0).trans rfl,(D5 BK293.out 1).trans rfl⟩ (fun hHeld => ?_)
          clear hK K
          refine norm_ (a':=?_) ?_ ?_
          rotate_left
          ·show Act.put _ (some 162) _ = _
           simp only [Act.put,Q2,Q0,Q1,i64_w,i32_w]
           rfl
          refine one_ (i:=17) (N:=some 166) #[T,T,T,T,T,T,T,T,T,T,T,T,T,T,T,T,T,T,F,F,F,F,F,F,F,F,F,F,F,F,F,F,F,F,F] rfl rfl (one_of HT_.out (by kernel_rfl)) (by decide) (fun K hK => ?_)
          refine goes_ Try.func20 (by kernel_rfl) rfl #[.int .i64 a0,.agg #[.int .u32 a3_0,.int .u32 a3_1,.int .u32 a3_2,.int .u32 a3_3],.agg #[.int .i64 a4_0,.int .i64 a4_1]] (by rfl) rfl rfl (by (try simp only [List.map_toArray,List.map_cons,List.map_nil]);first|done|rfl|(simp only [List.length_drop,List.length_take];rfl)) ?_
          with_reducible refine (awardingbodyref41_Verify.calls k2 a0 a3_0 a3_1 a3_2 a3_3 a4_0 a4_1 t314 _ A164.out).mono ?_
          rintro e w182 ⟨rfl,hb⟩
          refine ⟨_,rfl,?_⟩
          have n0_:=AK (D6 (g:=gb271) (o:=.cells #[.int .u32 a3_0,.int .u32 a3_1,.int .u32 a3_2,.int .u32 a3_3] 24 (0,0)) (by (with_reducible repeat (first|refine D1 ?_ _|refine D2 ?_|refine D3 ?_ _));exact BK271.out) hb)
          have n1_:=AK (D6 (g:=gb272) (o:=.cells #[.int .i64 a4_0,.int .i64 a4_1] 26 (0,0)) (by (with_reducible repeat (first|refine D1 ?_ _|refine D2 ?_|refine D3 ?_ _));exact BK272.out) hb)
          have n2_:=AK (D6 (g:=gb281) (o:=.cells #[.int .i64 t278,.int .i64 t279] 26 (0,0)) (by (with_reducible repeat (first|refine D1 ?_ _|refine D2 ?_|refine D3 ?_ _));exact BK281.out) hb)
          have n3_:=AK (D6 (g:=gb285) (o:=.cells #[.int .i64 t282,.int .i64 t283] 26 (0,0)) (by (with_reducible repeat (first|refine D1 ?_ _|refine D2 ?_|refine D3 ?_ _));exact BK285.out) hb)
          have n4_:=AK (D6 (g:=gb289) (o:=.cells #[.int .i64 t286,.int .i64 t287] 26 (0,0)) (by (with_reducible repeat (first|refine D1 ?_ _|refine D2 ?_|refine D3 ?_ _));exact BK289.out) hb)
          have n5_:=AK (D6 (g:=gb293) (o:=.cells #[.int .i64 t290,.int .i64 t291] 26 (0,0)) (by (with_reducible repeat (first|refine D1 ?_ _|refine D2 ?_|refine D3 ?_ _));exact BK293.out) hb)
          have n6_:=AK (below_step (by repeat (first|(with_reducible first|exact HB.out|apply below_alloc|apply D7|apply below_drew1|refine D4 ?_ GE271.out|refine D4 ?_ GE272.out|refine D4 ?_ GE281.out|refine D4 ?_ GE285.out|refine D4 ?_ GE289.out|refine D4 ?_ GE293.out)|exact HB.out)) hb)
          clear BK271
          clear BK272
          clear BK281
          clear BK285
          clear BK289
          clear BK293
          clear HB
          have BK271:=n0_
          have BK272:=n1_
          have BK281:=n2_
          have BK285:=n3_
          have BK289:=n4_
          have BK293:=n5_
          have HB:=n6_
          clear n0_ n1_ n2_ n3_ n4_ n5_ n6_
          (try clear hb)
          (try clear hb2)
          (try clear hk)
          (try clear hi)
          refine hK.out _ _ ⟨(D5 BK271.out 0).trans rfl,(D5 BK271.out 1).trans rfl,(D5 BK271.out 2).trans rfl,(D5 BK271.out 3).trans rfl,(D5 BK272.out 0).trans rfl,(D5 BK272.out 1).trans rfl,(D5 BK293.out 0).trans rfl,(D5 BK293.out 1).trans rfl⟩ (fun hHeld => ?_)
          clear hK K
          refine norm_ (a':=?_) ?_ ?_
          rotate_left
          ·show Act.put _ (some 166) _ = _
           simp only [Act.put,Q2,Q0,Q1,i64_w,i32_w]
           rfl
          refine pure_ (i:=18) (N:=some 167) (v:=?_) (a':=?_) #[T,T,T,T,T,T,T,T,T,T,T,T,T,T,T,T,T,T,T,F,F,F,F,F,F,F,F,F,F,F,F,F,F,F,F] rfl rfl (any_of HT_.out (by kernel_rfl)) (fun _ _ _ h => h) (Or.inl ⟨by rfl,?_⟩) ?_ ?_
          rotate_left
          ·intro w'
           go_simp
           with_reducible rfl
          rotate_left
          ·simp only [Act.put,Q2,Q0,Q1,i64_w,i32_w]
           rfl
          refine pure_ (i:=19) (N:=some 168) (v:=?_) (a':=?_) #[T,T,T,T,T,T,T,T,T,T,T,T,T,T,T,T,T,T,T,T,F,F,F,F,F,F,F,F,F,F,F,F,F,F,F] rfl rfl (any_of HT_.out (by kernel_rfl)) (fun _ _ _ h => h) (Or.inl ⟨by rfl,?_⟩) ?_ ?_
          rotate_left
          ·intro w'
           go_simp
           with_reducible rfl
          rotate_left
          ·simp only [Act.put,Q2,Q0,Q1,i64_w,i32_w]
           rfl
          refine pure_ (i:=20) (N:=some 169) (v:=?_) (a':=?_) #[T,T,T,T,T,T,T,T,T,T,T,T,T,T,T,T,T,T,T,T,T,F,F,F,F,F,F,F,F,F,F,F,F,F,F] rfl rfl (any_of HT_.out (by kernel_rfl)) (fun _ _ _ h => h) (Or.inl ⟨by rfl,?_⟩) ?_ ?_
          rotate_left
          ·intro w'
           go_simp
           with_reducible rfl
          rotate_left
          ·simp only [Act.put,Q2,Q0,Q1,i64_w,i32_w]
           rfl
          refine pure_ (i:=21) (N:=some 170) (v:=?_) (a':=?_) #[T,T,T,T,T,T,T,T,T,T,T,T,T,T,T,T,T,T,T,T,T,T,F,F,F,F,F,F,F,F,F,F,F,F,F] rfl rfl (any_of HT_.out (by kernel_rfl)) (fun _ _ _ h => h) (Or.inl ⟨by rfl,?_⟩) ?_ ?_
          rotate_left
          ·intro w'
           go_simp
           with_reducible rfl
          rotate_left
          ·simp only [Act.put,Q2,Q0,Q1,i64_w,i32_w]
           rfl
          refine pure_ (i:=25) (N:=some 174) (v:=?_) (a':=?_) #[T,T,T,T,T,T,T,T,T,T,T,T,T,T,T,T,T,T,T,T,T,T,F,F,F,T,F,F,F,F,F,F,F,F,F] rfl rfl (any_of HT_.out (by kernel_rfl)) (fun _ _ _ h => h) (Or.inl ⟨by rfl,?_⟩) ?_ ?_
          rotate_left
          ·intro w'
           go_simp
           with_reducible rfl
          rotate_left
          ·simp only [Act.put,Q2,Q0,Q1,i64_w,i32_w]
           rfl
          refine take_ (i:=22) (N:=some 171) (v:=?_) (a':=?_) #[T,T,T,T,T,T,T,T,T,T,T,T,T,T,T,T,T,T,T,T,T,T,T,F,F,T,F,F,F,F,F,F,F,F,F] rfl rfl (take_ofW HT_.out HW_.out (by kernel_rfl)) (fun _ _ _ h => h) (Or.inl ⟨by rfl,?_⟩) hHeld ?_ ?_
          rotate_left
          ·rintro w' ⟨s0,s1,s2,s3,s4,s5,s6,s7⟩
           go_simp
           with_reducible rfl
          rotate_left
          ·simp only [Act.put,Q2,Q0,Q1,i64_w,i32_w]
           rfl
          refine take_ (i:=23) (N:=some 172) (v:=?_) (a':=?_) #[T,T,T,T,T,T,T,T,T,T,T,T,T,T,T,T,T,T,T,T,T,T,T,T,F,T,F,F,F,F,F,F,F,F,F] rfl rfl (take_ofW HT_.out HW_.out (by kernel_rfl)) (fun _ _ _ h => h) (Or.inl ⟨by rfl,?_⟩) hHeld ?_ ?_
          rotate_left
          ·rintro w' ⟨s0,s1,s2,s3,s4,s5,s6,s7⟩
           go_simp
           with_reducible rfl
          rotate_left
          ·simp only [Act.put,Q2,Q0,Q1,i64_w,i32_w]
           rfl
          refine take_ (i:=26) (N:=some 175) (v:=?_) (a':=?_) #[T,T,T,T,T,T,T,T,T,T,T,T,T,T,T,T,T,T,T,T,T,T,T,T,F,T,T,F,F,F,F,F,F,F,F] rfl rfl (take_ofW HT_.out HW_.out (by kernel_rfl)) (fun _ _ _ h => h) (Or.inl ⟨by rfl,?_⟩) hHeld ?_ ?_
          rotate_left
          ·rintro w' ⟨s0,s1,s2,s3,s4,s5,s6,s7⟩
           go_simp
           with_reducible rfl
          rotate_left
          ·simp only [Act.put,Q2,Q0,Q1,i64_w,i32_w]
           rfl
          refine take_ (i:=27) (N:=some 176) (v:=?_) (a':=?_) #[T,T,T,T,T,T,T,T,T,T,T,T,T,T,T,T,T,T,T,T,T,T,T,T,F,T,T,T,F,F,F,F,F,F,F] rfl rfl (take_ofW HT_.out HW_.out (by kernel_rfl)) (fun _ _ _ h => h) (Or.inl ⟨by rfl,?_⟩) hHeld ?_ ?_
          rotate_left
          ·rintro w' ⟨s0,s1,s2,s3,s4,s5,s6,s7⟩
           go_simp
           with_reducible rfl
          rotate_left
          ·simp only [Act.put,Q2,Q0,Q1,i64_w,i32_w]
           rfl
          refine one_ (i:=24) (N:=some 173) #[T,T,T,T,T,T,T,T,T,T,T,T,T,T,T,T,T,T,T,T,T,T,T,T,T,T,T,T,F,F,F,F,F,F,F] rfl rfl (one_of HT_.out (by kernel_rfl)) (by decide) (fun K hK => ?_)
          refine goes_ Try.func19 (by kernel_rfl) rfl #[.int .i64 a0,.agg #[.int .u32 a3_0,.int .u32 a3_1,.int .u32 a3_2,.int .u32 a3_3],.agg #[.int .i64 t290,.int .i64 t291]] (by rfl) rfl rfl (by (try simp only [List.map_toArray,List.map_cons,List.map_nil]);first|done|rfl|(simp only [List.length_drop,List.length_take];rfl)) ?_
          with_reducible refine (signature_Verify.calls k2 a0 a3_0 a3_1 a3_2 a3_3 t290 t291 t315 _ A166.out).mono ?_
          rintro e w183 ⟨rfl,hb⟩
          refine ⟨_,rfl,?_⟩
          have n0_:=AK (D6 (g:=gb271) (o:=.cells #[.int .u32 a3_0,.int .u32 a3_1,.int .u32 a3_2,.int .u32 a3_3] 24 (0,0)) (by (with_reducible repeat (first|refine D1 ?_ _|refine D2 ?_|refine D3 ?_ _));exact BK271.out) hb)
          have n1_:=AK (D6 (g:=gb272) (o:=.cells #[.int .i64 a4_0,.int .i64 a4_1] 26 (0,0)) (by (with_reducible repeat (first|refine D1 ?_ _|refine D2 ?_|refine D3 ?_ _));exact BK272.out) hb)
          have n2_:=AK (D6 (g:=gb281) (o:=.cells #[.int .i64 t278,.int .i64 t279] 26 (0,0)) (by (with_reducible repeat (first|refine D1 ?_ _|refine D2 ?_|refine D3 ?_ _));exact BK281.out) hb)
          have n3_:=AK (D6 (g:=gb285) (o:=.cells #[.int .i64 t282,.int .i64 t283] 26 (0,0)) (by (with_reducible repeat (first|refine D1 ?_ _|refine D2 ?_|refine D3 ?_ _));exact BK285.out) hb)
          have n4_:=AK (D6 (g:=gb289) (o:=.cells #[.int .i64 t286,.int .i64 t287] 26 (0,0)) (by (with_reducible repeat (first|refine D1 ?_ _|refine D2 ?_|refine D3 ?_ _));exact BK289.out) hb)
          have n5_:=AK (D6 (g:=gb293) (o:=.cells #[.int .i64 t290,.int .i64 t291] 26 (0,0)) (by (with_reducible repeat (first|refine D1 ?_ _|refine D2 ?_|refine D3 ?_ _));exact BK293.out) hb)
          have n6_:=AK (below_step (by repeat (first|(with_reducible first|exact HB.out|apply below_alloc|apply D7|apply below_drew1|refine D4 ?_ GE271.out|refine D4 ?_ GE272.out|refine D4 ?_ GE281.out|refine D4 ?_ GE285.out|refine D4 ?_ GE289.out|refine D4 ?_ GE293.out)|exact HB.out)) hb)
          clear BK271
          clear BK272
          clear BK281
          clear BK285
          clear BK289
          clear BK293
          clear HB
          have BK271:=n0_
          have BK272:=n1_
          have BK281:=n2_
          have BK285:=n3_
          have BK289:=n4_
          have BK293:=n5_
          have HB:=n6_
          clear n0_ n1_ n2_ n3_ n4_ n5_ n6_
          (try clear hb)
          (try clear hb2)
          (try clear hk)
          (try clear hi)
          refine hK.out _ _ ⟨(D5 BK271.out 0).trans rfl,(D5 BK271.out 1).trans rfl,(D5 BK271.out 2).trans rfl,(D5 BK271.out 3).trans rfl,(D5 BK272.out 0).trans rfl,(D5 BK272.out 1).trans rfl,(D5 BK293.out 0).trans rfl,(D5 BK293.out 1).trans rfl⟩ (fun hHeld => ?_)
          clear hK K
          refine norm_ (a':=?_) ?_ ?_
          rotate_left
          ·show Act.put _ (some 173) _ = _
           simp only [Act.put,Q2,Q0,Q1,i64_w,i32_w]
           rfl
          refine one_ (i:=28) (N:=some 177) #[T,T,T,T,T,T,T,T,T,T,T,T,T,T,T,T,T,T,T,T,T,T,T,T,T,T,T,T,T,F,F,F,F,F,F] rfl rfl (one_of HT_.out (by kernel_rfl)) (by decide) (fun K hK => ?_)
          refine goes_ Try.func20 (by kernel_rfl) rfl #[.int .i64 a0,.agg #[.int .u32 a3_0,.int .u32 a3_1,.int .u32 a3_2,.int .u32 a3_3],.agg #[.int .i64 t290,.int .i64 t291]] (by rfl) rfl rfl (by (try simp only [List.map_toArray,List.map_cons,List.map_nil]);first|done|rfl|(simp only [List.length_drop,List.length_take];rfl)) ?_
          with_reducible refine (awardingbodyref41_Verify.calls k2 a0 a3_0 a3_1 a3_2 a3_3 t290 t291 t316 _ A167.out).mono ?_
          rintro e w184 ⟨rfl,hb⟩
          refine ⟨_,rfl,?_⟩
          have n0_:=AK (D6 (g:=gb271) (o:=.cells #[.int .u32 a3_0,.int .u32 a3_1,.int .u32 a3_2,.int .u32 a3_3] 24 (0,0)) (by (with_reducible repeat (first|refine D1 ?_ _|refine D2 ?_|refine D3 ?_ _));exact BK271.out) hb)
          have n1_:=AK (D6 (g:=gb272) (o:=.cells #[.int .i64 a4_0,.int .i64 a4_1] 26 (0,0)) (by (with_reducible repeat (first|refine D1 ?_ _|refine D2 ?_|refine D3 ?_ _));exact BK272.out) hb)
          have n2_:=AK (D6 (g:=gb281) (o:=.cells #[.int .i64 t278,.int .i64 t279] 26 (0,0)) (by (with_reducible repeat (first|refine D1 ?_ _|refine D2 ?_|refine D3 ?_ _));exact BK281.out) hb)
          have n3_:=AK (D6 (g:=gb285) (o:=.cells #[.int .i64 t282,.int .i64 t283] 26 (0,0)) (by (with_reducible repeat (first|refine D1 ?_ _|refine D2 ?_|refine D3 ?_ _));exact BK285.out) hb)
          have n4_:=AK (D6 (g:=gb289) (o:=.cells #[.int .i64 t286,.int .i64 t287] 26 (0,0)) (by (with_reducible repeat (first|refine D1 ?_ _|refine D2 ?_|refine D3 ?_ _));exact BK289.out) hb)
          have n5_:=AK (D6 (g:=gb293) (o:=.cells #[.int .i64 t290,.int .i64 t291] 26 (0,0)) (by (with_reducible repeat (first|refine D1 ?_ _|refine D2 ?_|refine D3 ?_ _));exact BK293.out) hb)
          have n6_:=AK (below_step (by repeat (first|(with_reducible first|exact HB.out|apply below_alloc|apply D7|apply below_drew1|refine D4 ?_ GE271.out|refine D4 ?_ GE272.out|refine D4 ?_ GE281.out|refine D4 ?_ GE285.out|refine D4 ?_ GE289.out|refine D4 ?_ GE293.out)|exact HB.out)) hb)
          clear BK271
          clear BK272
          clear BK281
          clear BK285
          clear BK289
          clear BK293
          clear HB
          have BK271:=n0_
          have BK272:=n1_
          have BK281:=n2_
          have BK285:=n3_
          have BK289:=n4_
          have BK293:=n5_
          have HB:=n6_
          clear n0_ n1_ n2_ n3_ n4_ n5_ n6_
          (try clear hb)
          (try clear hb2)
          (try clear hk)
          (try clear hi)
          refine hK.out _ _ ⟨(D5 BK271.out 0).trans rfl,(D5 BK271.out 1).trans rfl,(D5 BK271.out 2).trans rfl,(D5 BK271.out 3).trans rfl,(D5 BK272.out 0).trans rfl,(D5 BK272.out 1).trans rfl,(D5 BK293.out 0).trans rfl,(D5 BK293.out 1).trans rfl⟩ (fun hHeld => ?_)
          clear hK K
          refine norm_ (a':=?_) ?_ ?_
          rotate_left
          ·show Act.put _ (some 177) _ = _
           simp only [Act.put,Q2,Q0,Q1,i64_w,i32_w]
           rfl
          refine pure_ (i:=29) (N:=some 178) (v:=?_) (a':=?_) #[T,T,T,T,T,T,T,T,T,T,T,T,T,T,T,T,T,T,T,T,T,T,T,T,T,T,T,T,T,T,F,F,F,F,F] rfl rfl (any_of HT_.out (by kernel_rfl)) (fun _ _ _ h => h) (Or.inl ⟨by rfl,?_⟩) ?_ ?_
          rotate_left
          ·intro w'
           go_simp
           with_reducible rfl
          rotate_left
          ·simp only [Act.put,Q2,Q0,Q1,i64_w,i32_w]
           rfl
          refine pure_ (i:=30) (N:=some 179) (v:=?_) (a':=?_) #[T,T,T,T,T,T,T,T,T,T,T,T,T,T,T,T,T,T,T,T,T,T,T,T,T,T,T,T,T,T,T,F,F,F,F] rfl rfl (any_of HT_.out (by kernel_rfl)) (fun _ _ _ h => h) (Or.inl ⟨by rfl,?_⟩) ?_ ?_
          rotate_left
          ·intro w'
           go_simp
           with_reducible rfl
          rotate_left
          ·simp only [Act.put,Q2,Q0,Q1,i64_w,i32_w]
           rfl
          refine pure_ (i:=31) (N:=some 180) (v:=?_) (a':=?_) #[T,T,T,T,T,T,T,T,T,T,T,T,T,T,T,T,T,T,T,T,T,T,T,T,T,T,T,T,T,T,T,T,F,F,F] rfl rfl (any_of HT_.out (by kernel_rfl)) (fun _ _ _ h => h) (Or.inl ⟨by rfl,?_⟩) ?_ ?_
          rotate_left
          ·intro w'
           go_simp
           with_reducible rfl
          rotate_left
          ·simp only [Act.put,Q2,Q0,Q1,i64_w,i32_w]
           rfl
          refine pure_ (i:=32) (N:=some 181) (v:=undef) (a':=?_) #[T,T,T,T,T,T,T,T,T,T,T,T,T,T,T,T,T,T,T,T,T,T,T,T,T,T,T,T,T,T,T,T,T,F,F] rfl rfl (any_of HT_.out (by kernel_rfl)) (fun _ _ _ h => h) (Or.inr ⟨by rfl,rfl⟩) ?_ ?_
          rotate_left
          ·simp only [Act.put,Q2,Q0,Q1,i64_w,i32_w]
           rfl
          refine pure_ (i:=33) (N:=some 182) (v:=?_) (a':=?_) #[T,T,T,T,T,T,T,T,T,T,T,T,T,T,T,T,T,T,T,T,T,T,T,T,T,T,T,T,T,T,T,T,T,T,F] rfl rfl (any_of HT_.out (by kernel_rfl)) (fun _ _ _ h => h) (Or.inl ⟨by rfl,?_⟩) ?_ ?_
          rotate_left
          ·intro w'
           go_simp
           with_reducible rfl
          rotate_left
          ·simp only [Act.put,Q2,Q0,Q1,i64_w,i32_w]
           rfl
          refine pure_ (i:=34) (N:=some 10) (v:=?_) (a':=?_) #[T,T,T,T,T,T,T,T,T,T,T,T,T,T,T,T,T,T,T,T,T,T,T,T,T,T,T,T,T,T,T,T,T,T,T] rfl rfl (any_of HT_.out (by kernel_rfl)) (fun _ _ _ h => h) (Or.inl ⟨by rfl,?_⟩) ?_ ?_
          rotate_left
          ·intro w'
           go_simp
           with_reducible rfl
          rotate_left
          ·simp only [Act.put,Q2,Q0,Q1,i64_w,i32_w]
           rfl
          refine done_ (done_of HT_.out (by kernel_rfl)) ?_
          try go_wp2
          go_ret
          exact ⟨by first|rfl|(simp [errW_none,errW_some] <;> rfl)|(simp [*,errW_none,errW_some] <;> rfl),by repeat (first|(with_reducible first|exact HB.out|apply below_alloc|apply D7|apply below_drew1|refine D4 ?_ GE271.out|refine D4 ?_ GE272.out|refine D4 ?_ GE281.out|refine D4 ?_ GE285.out|refine D4 ?_ GE289.out|refine D4 ?_ GE293.out)|exact HB.out)⟩
        ·rw [if_neg c165] at H
         have c165b0 : (t313 == t314) = false:=by simpa using c165
         (try (have c165b1 : decide (t313 = t314) = false:=by simpa using c165))
         (try (have c165b2 : (t313 == t314) = false:=by simpa using c165))
         (try (have c165b3 : ¬ (t313 = t314):=by simpa using c165))
         clear c165
         obtain rfl:=Option.some.inj H
         try go_wp2_with (first|((with_reducible refine gate_callee (f:=10) rfl ?_);refine goesL_ (some 146) rfl rfl Try.func10 (by kernel_rfl) rfl #[.int .i64 (wrap64 (1 + t273))] rfl (by (try simp only [List.map_toArray,List.map_cons,List.map_nil]);first|done|rfl|(simp only [List.length_drop,List.length_take];rfl)) ?_;(with_reducible refine (awardingbodyref41_Public.calls k2 (wrap64 (1 + t273)) t309 t310 _ A159.out).mono ?_);rintro e w' ⟨rfl,⟨nd,rfl⟩⟩;refine ⟨_,rfl,?_⟩))
         (try (rw [drewN_self wr];generalize hq_ : World.drewN wr _ = wr;have n0_ : Aside0 (wr.heap[gb271]? = some (.cells #[.int .u32 a3_0,.int .u32 a3_1,.int .u32 a3_2,.int .u32 a3_3] 24 (0,0))):=⟨by rw [← hq_];exact (by (with_reducible repeat (first|refine D1 ?_ _|refine D2 ?_|refine D3 ?_ _));exact BK271.out)⟩;have n1_ : Aside0 (wr.heap[gb272]? = some (.cells #[.int .i64 a4_0,.int .i64 a4_1] 26 (0,0))):=⟨by rw [← hq_];exact (by (with_reducible repeat (first|refine D1 ?_ _|refine D2 ?_|refine D3 ?_ _));exact BK272.out)⟩;have n2_ : Aside0 (wr.heap[gb281]? = some (.cells #[.int .i64 t278,.int .i64 t279] 26 (0,0))):=⟨by rw [← hq_];exact (by (with_reducible repeat (first|refine D1 ?_ _|refine D2 ?_|refine D3 ?_ _));exact BK281.out)⟩;have n3_ : Aside0 (wr.heap[gb285]? = some (.cells #[.int .i64 t282,.int .i64 t283] 26 (0,0))):=⟨by rw [← hq_];exact (by (with_reducible repeat (first|refine D1 ?_ _|refine D2 ?_|refine D3 ?_ _));exact BK285.out)⟩;have n4_ : Aside0 (wr.heap[gb289]? = some (.cells #[.int .i64 t286,.int .i64 t287] 26 (0,0))):=⟨by rw [← hq_];exact (by (with_reducible repeat (first|refine D1 ?_ _|refine D2 ?_|refine D3 ?_ _));exact BK289.out)⟩;have n5_ : Aside0 (wr.heap[gb293]? = some (.cells #[.int .i64 t290,.int .i64 t291] 26 (0,0))):=⟨by rw [← hq_];exact (by (with_reducible repeat (first|refine D1 ?_ _|refine D2 ?_|refine D3 ?_ _));exact BK293.out)⟩;have n6_ : Aside0 (Below w.heap.size w wr):=⟨by rw [← hq_];exact (by repeat (first|(with_reducible first|exact HB.out|apply below_alloc|apply D7|apply below_drew1|refine D4 ?_ GE271.out|refine D4 ?_ GE272.out|refine D4 ?_ GE281.out|refine D4 ?_ GE285.out|refine D4 ?_ GE289.out|refine D4 ?_ GE293.out)|exact HB.out))⟩;clear BK271 BK272 BK281 BK285 BK289 BK293 HB hq_;have BK271:=n0_;have BK272:=n1_;have BK281:=n2_;have BK285:=n3_;have BK289:=n4_;have BK293:=n5_;have HB:=n6_;clear n0_ n1_ n2_ n3_ n4_ n5_ n6_))
         have n0_:=AK (D2 BK271.out)
         have n1_:=AK (D2 BK272.out)
         have n2_:=AK (D2 BK281.out)
         have n3_:=AK (D2 BK285.out)
         have n4_:=AK (D2 BK289.out)
         have n5_:=AK (D2 BK293.out)
         have n6_:=AK (below_drew1 HB.out)
         clear BK271
         clear BK272
         clear BK281
         clear BK285
         clear BK289
         clear BK293
         clear HB
         have BK271:=n0_
         have BK272:=n1_
         have BK281:=n2_
         have BK285:=n3_
         have BK289:=n4_
         have BK293:=n5_
         have HB:=n6_
         clear n0_ n1_ n2_ n3_ n4_ n5_ n6_
         refine start_ (n:=35) (S:=fun w' => w'.cell? ⟨gb271,0,none⟩ = some (.int .u32 a3_0) ∧ w'.cell? ⟨gb271,1,none⟩ = some (.int .u32 a3_1) ∧ w'.cell? ⟨gb271,2,none⟩ = some (.int .u32 a3_2) ∧ w'.cell? ⟨gb271,3,none⟩ = some (.int .u32 a3_3) ∧ w'.cell? ⟨gb272,0,none⟩ = some (.int .i64 a4_0) ∧ w'.cell? ⟨gb272,1,none⟩ = some (.int .i64 a4_1)) (ds:=[]) #[F,F,F,F,F,F,F,F,F,F,F,F,F,F,F,F,F,F,F,F,F,F,F,F,F,F,F,F,F,F,F,F,F,F,F] (by kernel_rfl) rfl rfl ⟨(D5 BK271.out 0).trans rfl,(D5 BK271.out 1).trans rfl,(D5 BK271.out 2).trans rfl,(D5 BK271.out 3).trans rfl,(D5 BK272.out 0).trans rfl,(D5 BK272.out 1).trans rfl⟩ (fun hHeld => ?_);refine with_tabW awardingbodylaw41_SignatureExact.tab17 awardingbodylaw41_SignatureExact.bits17 (fun HT_ HW_ => ?_)
         generalize wr.drew = w185 at BK271 BK272 BK281 BK285 BK289 BK293 HB hHeld ⊢
         refine pure_ (i:=0) (N:=some 149) (v:=?_) (a':=?_) #[T,F,F,F,F,F,F,F,F,F,F,F,F,F,F,F,F,F,F,F,F,F,F,F,F,F,F,F,F,F,F,F,F,F,F] rfl rfl (any_of HT_.out (by kernel_rfl)) (fun _ _ _ h => h) (Or.inl ⟨by rfl,?_⟩) ?_ ?_
         rotate_left
         ·intro w'
          go_simp
          with_reducible rfl
         rotate_left
         ·simp only [Act.put,Q2,Q0,Q1,i64_w,i32_w]
          rfl
         refine pure_ (i:=4) (N:=some 153) (v:=?_) (a':=?_) #[T,F,F,F,T,F,F,F,F,F,F,F,F,F,F,F,F,F,F,F,F,F,F,F,F,F,F,F,F,F,F,F,F,F,F] rfl rfl (any_of HT_.out (by kernel_rfl)) (fun _ _ _ h => h) (Or.inl ⟨by rfl,?_⟩) ?_ ?_
         rotate_left
         ·intro w'
          go_simp
          with_reducible rfl
         rotate_left
         ·simp only [Act.put,Q2,Q0,Q1,i64_w,i32_w]
          rfl
         refine take_ (i:=1) (N:=some 150) (v:=?_) (a':=?_) #[T,T,F,F,T,F,F,F,F,F,F,F,F,F,F,F,F,F,F,F,F,F,F,F,F,F,F,F,F,F,F,F,F,F,F] rfl rfl (take_ofW HT_.out HW_.out (by kernel_rfl)) (fun _ _ _ h => h) (Or.inl ⟨by rfl,?_⟩) hHeld ?_ ?_
         rotate_left
         ·rintro w' ⟨s0,s1,s2,s3,s4,s5⟩
          go_simp
          with_reducible rfl
         rotate_left
         ·simp only [Act.put,Q2,Q0,Q1,i64_w,i32_w]
          rfl
         refine take_ (i:=2) (N:=some 151) (v:=?_) (a':=?_) #[T,T,T,F,T,F,F,F,F,F,F,F,F,F,F,F,F,F,F,F,F,F,F,F,F,F,F,F,F,F,F,F,F,F,F] rfl rfl (take_ofW HT_.out HW_.out (by kernel_rfl)) (fun _ _ _ h => h) (Or.inl ⟨by rfl,?_⟩) hHeld ?_ ?_
         rotate_left
         ·rintro w' ⟨s0,s1,s2,s3,s4,s5⟩
          go_simp
          with_reducible rfl
         rotate_left
         ·simp only [Act.put,Q2,Q0,Q1,i64_w,i32_w]
          rfl
         refine take_ (i:=5) (N:=some 154) (v:=?_) (a':=?_) #[T,T,T,F,T,T,F,F,F,F,F,F,F,F,F,F,F,F,F,F,F,F,F,F,F,F,F,F,F,F,F,F,F,F,F] rfl rfl (take_ofW HT_.out HW_.out (by kernel_rfl)) (fun _ _ _ h => h) (Or.inl ⟨by rfl,?_⟩) hHeld ?_ ?_
         rotate_left
         ·rintro w' ⟨s0,s1,s2,s3,s4,s5⟩
          go_simp
          with_reducible rfl
         rotate_left
         ·simp only [Act.put,Q2,Q0,Q1,i64_w,i32_w]
          rfl
         refine take_ (i:=6) (N:=some 155) (v:=?_) (a':=?_) #[T,T,T,F,T,T,T,F,F,F,F,F,F,F,F,F,F,F,F,F,F,F,F,F,F,F,F,F,F,F,F,F,F,F,F] rfl rfl (take_ofW HT_.out HW_.out (by kernel_rfl)) (fun _ _ _ h => h) (Or.inl ⟨by rfl,?_⟩) hHeld ?_ ?_
         rotate_left
         ·rintro w' ⟨s0,s1,s2,s3,s4,s5⟩
          go_simp
          with_reducible rfl
         rotate_left
         ·simp only [Act.put,Q2,Q0,Q1,i64_w,i32_w]
          rfl
         refine one_ (i:=3) (N:=some 152) #[T,T,T,T,T,T,T,F,F,F,F,F,F,F,F,F,F,F,F,F,F,F,F,F,F,F,F,F,F,F,F,F,F,F,F] rfl rfl (one_of HT_.out (by kernel_rfl)) (by decide) (fun K hK => ?_)
         refine goes_ Try.func19 (by kernel_rfl) rfl #[.int .i64 t309,.agg #[.int .u32 a3_0,.int .u32 a3_1,.int .u32 a3_2,.int .u32 a3_3],.agg #[.int .i64 a4_0,.int .i64 a4_1]] (by rfl) rfl rfl (by (try simp only [List.map_toArray,List.map_cons,List.map_nil]);first|done|rfl|(simp only [List.length_drop,List.length_take];rfl)) ?_
         with_reducible refine (signature_Verify.calls k2 t309 a3_0 a3_1 a3_2 a3_3 a4_0 a4_1 t311 _ A160.out).mono ?_
         rintro e w186 ⟨rfl,hb⟩
         refine ⟨_,rfl,?_⟩
         have n0_:=AK (D6 (g:=gb271) (o:=.cells #[.int .u32 a3_0,.int .u32 a3_1,.int .u32 a3_2,.int .u32 a3_3] 24 (0,0)) (by (with_reducible repeat (first|refine D1 ?_ _|refine D2 ?_|refine D3 ?_ _));exact BK271.out) hb)
         have n1_:=AK (D6 (g:=gb272) (o:=.cells #[.int .i64 a4_0,.int .i64 a4_1] 26 (0,0)) (by (with_reducible repeat (first|refine D1 ?_ _|refine D2 ?_|refine D3 ?_ _));exact BK272.out) hb)
         have n2_:=AK (D6 (g:=gb281) (o:=.cells #[.int .i64 t278,.int .i64 t279] 26 (0,0)) (by (with_reducible repeat (first|refine D1 ?_ _|refine D2 ?_|refine D3 ?_ _));exact BK281.out) hb)
         have n3_:=AK (D6 (g:=gb285) (o:=.cells #[.int .i64 t282,.int .i64 t283] 26 (0,0)) (by (with_reducible repeat (first|refine D1 ?_ _|refine D2 ?_|refine D3 ?_ _));exact BK285.out) hb)
         have n4_:=AK (D6 (g:=gb289) (o:=.cells #[.int .i64 t286,.int .i64 t287] 26 (0,0)) (by (with_reducible repeat (first|refine D1 ?_ _|refine D2 ?_|refine D3 ?_ _));exact BK289.out) hb)
         have n5_:=AK (D6 (g:=gb293) (o:=.cells #[.int .i64 t290,.int .i64 t291] 26 (0,0)) (by (with_reducible repeat (first|refine D1 ?_ _|refine D2 ?_|refine D3 ?_ _));exact BK293.out) hb)
         have n6_:=AK (below_step (by repeat (first|(with_reducible first|exact HB.out|apply below_alloc|apply D7|apply below_drew1|refine D4 ?_ GE271.out|refine D4 ?_ GE272.out|refine D4 ?_ GE281.out|refine D4 ?_ GE285.out|refine D4 ?_ GE289.out|refine D4 ?_ GE293.out)|exact HB.out)) hb)
         clear BK271
         clear BK272
         clear BK281
         clear BK285
         clear BK289
         clear BK293
         clear HB
         have BK271:=n0_
         have BK272:=n1_
         have BK281:=n2_
         have BK285:=n3_
         have BK289:=n4_
         have BK293:=n5_
         have HB:=n6_
         clear n0_ n1_ n2_ n3_ n4_ n5_ n6_
         (try clear hb)
         (try clear hb2)
         (try clear hk)
         (try clear hi)
         refine hK.out _ _ ⟨(D5 BK271.out 0).trans rfl,(D5 BK271.out 1).trans rfl,(D5 BK271.out 2).trans rfl,(D5 BK271.out 3).trans rfl,(D5 BK272.out 0).trans rfl,(D5 BK272.out 1).trans rfl⟩ (fun hHeld => ?_)
         clear hK K
         refine norm_ (a':=?_) ?_ ?_
         rotate_left
         ·show Act.put _ (some 152) _ = _
          simp only [Act.put,Q2,Q0,Q1,i64_w,i32_w]
          rfl
         refine one_ (i:=7) (N:=some 156) #[T,T,T,T,T,T,T,T,F,F,F,F,F,F,F,F,F,F,F,F,F,F,F,F,F,F,F,F,F,F,F,F,F,F,F] rfl rfl (one_of HT_.out (by kernel_rfl)) (by decide) (fun K hK => ?_)
         refine goes_ Try.func20 (by kernel_rfl) rfl #[.int .i64 t309,.agg #[.int .u32 a3_0,.int .u32 a3_1,.int .u32 a3_2,.int .u32 a3_3],.agg #[.int .i64 a4_0,.int .i64 a4_1]] (by rfl) rfl rfl (by (try simp only [List.map_toArray,List.map_cons,List.map_nil]);first|done|rfl|(simp only [List.length_drop,List.length_take];rfl)) ?_
         with_reducible refine (awardingbodyref41_Verify.calls k2 t309 a3_0 a3_1 a3_2 a3_3 a4_0 a4_1 t312 _ A161.out).mono ?_
         rintro e w187 ⟨rfl,hb⟩
         refine ⟨_,rfl,?_⟩
         have n0_:=AK (D6 (g:=gb271) (o:=.cells #[.int .u32 a3_0,.int .u32 a3_1,.int .u32 a3_2,.int .u32 a3_3] 24 (0,0)) (by (with_reducible repeat (first|refine D1 ?_ _|refine D2 ?_|refine D3 ?_ _));exact BK271.out) hb)
         have n1_:=AK (D6 (g:=gb272) (o:=.cells #[.int .i64 a4_0,.int .i64 a4_1] 26 (0,0)) (by (with_reducible repeat (first|refine D1 ?_ _|refine D2 ?_|refine D3 ?_ _));exact BK272.out) hb)
         have n2_:=AK (D6 (g:=gb281) (o:=.cells #[.int .i64 t278,.int .i64 t279] 26 (0,0)) (by (with_reducible repeat (first|refine D1 ?_ _|refine D2 ?_|refine D3 ?_ _));exact BK281.out) hb)
         have n3_:=AK (D6 (g:=gb285) (o:=.cells #[.int .i64 t282,.int .i64 t283] 26 (0,0)) (by (with_reducible repeat (first|refine D1 ?_ _|refine D2 ?_|refine D3 ?_ _));exact BK285.out) hb)
         have n4_:=AK (D6 (g:=gb289) (o:=.cells #[.int .i64 t286,.int .i64 t287] 26 (0,0)) (by (with_reducible repeat (first|refine D1 ?_ _|refine D2 ?_|refine D3 ?_ _));exact BK289.out) hb)
         have n5_:=AK (D6 (g:=gb293) (o:=.cells #[.int .i64 t290,.int .i64 t291] 26 (0,0)) (by (with_reducible repeat (first|refine D1 ?_ _|refine D2 ?_|refine D3 ?_ _));exact BK293.out) hb)
         have n6_:=AK (below_step (by repeat (first|(with_reducible first|exact HB.out|apply below_alloc|apply D7|apply below_drew1|refine D4 ?_ GE271.out|refine D4 ?_ GE272.out|refine D4 ?_ GE281.out|refine D4 ?_ GE285.out|refine D4 ?_ GE289.out|refine D4 ?_ GE293.out)|exact HB.out)) hb)
         clear BK271
         clear BK272
         clear BK281
         clear BK285
         clear BK289
         clear BK293
         clear HB
         have BK271:=n0_
         have BK272:=n1_
         have BK281:=n2_
         have BK285:=n3_
         have BK289:=n4_
         have BK293:=n5_
         have HB:=n6_
         clear n0_ n1_ n2_ n3_ n4_ n5_ n6_
         (try clear hb)
         (try clear hb2)
         (try clear hk)
         (try clear hi)
         refine hK.out _ _ ⟨(D5 BK271.out 0).trans rfl,(D5 BK271.out 1).trans rfl,(D5 BK271.out 2).trans rfl,(D5 BK271.out 3).trans rfl,(D5 BK272.out 0).trans rfl,(D5 BK272.out 1).trans rfl⟩ (fun hHeld => ?_)
         clear hK K
         refine norm_ (a':=?_) ?_ ?_
         rotate_left
         ·show Act.put _ (some 156) _ = _
          simp only [Act.put,Q2,Q0,Q1,i64_w,i32_w]
          rfl
         refine pure_ (i:=8) (N:=some 157) (v:=?_) (a':=?_) #[T,T,T,T,T,T,T,T,T,F,F,F,F,F,F,F,F,F,F,F,F,F,F,F,F,F,F,F,F,F,F,F,F,F,F] rfl rfl (any_of HT_.out (by kernel_rfl)) (fun _ _ _ h => h) (Or.inl ⟨by rfl,?_⟩) ?_ ?_
         rotate_left
         ·intro w'
          go_simp
          with_reducible rfl
         rotate_left
         ·simp only [Act.put,Q2,Q0,Q1,i64_w,i32_w]
          rfl
         refine pure_ (i:=9) (N:=some 158) (v:=?_) (a':=?_) #[T,T,T,T,T,T,T,T,T,T,F,F,F,F,F,F,F,F,F,F,F,F,F,F,F,F,F,F,F,F,F,F,F,F,F] rfl rfl (any_of HT_.out (by kernel_rfl)) (fun _ _ _ h => h) (Or.inl ⟨by rfl,?_⟩) ?_ ?_
         rotate_left
         ·intro w'
          go_simp
          with_reducible rfl
         rotate_left
         ·simp only [Act.put,Q2,Q0,Q1,i64_w,i32_w]
          rfl
         refine pure_ (i:=10) (N:=some 159) (v:=?_) (a':=?_) #[T,T,T,T,T,T,T,T,T,T,T,F,F,F,F,F,F,F,F,F,F,F,F,F,F,F,F,F,F,F,F,F,F,F,F] rfl rfl (any_of HT_.out (by kernel_rfl)) (fun _ _ _ h => h) (Or.inl ⟨by rfl,?_⟩) ?_ ?_
         rotate_left
         ·intro w'
          go_simp
          with_reducible rfl
         rotate_left
         ·simp only [Act.put,Q2,Q0,Q1,i64_w,i32_w]
          rfl
         refine pure_ (i:=14) (N:=some 163) (v:=?_) (a':=?_) #[T,T,T,T,T,T,T,T,T,T,T,F,F,F,T,F,F,F,F,F,F,F,F,F,F,F,F,F,F,F,F,F,F,F,F] rfl rfl (any_of HT_.out (by kernel_rfl)) (fun _ _ _ h => h) (Or.inl ⟨by rfl,?_⟩) ?_ ?_
         rotate_left
         ·intro w'
          go_simp
          with_reducible rfl
         rotate_left
         ·simp only [Act.put,Q2,Q0,Q1,i64_w,i32_w]
          rfl
         refine take_ (i:=11) (N:=some 160) (v:=?_) (a':=?_) #[T,T,T,T,T,T,T,T,T,T,T,T,F,F,T,F,F,F,F,F,F,F,F,F,F,F,F,F,F,F,F,F,F,F,F] rfl rfl (take_ofW HT_.out HW_.out (by kernel_rfl)) (fun _ _ _ h => h) (Or.inl ⟨by rfl,?_⟩) hHeld ?_ ?_
         rotate_left
         ·rintro w' ⟨s0,s1,s2,s3,s4,s5⟩
          go_simp
          with_reducible rfl
         rotate_left
         ·simp only [Act.put,Q2,Q0,Q1,i64_w,i32_w]
          rfl
         refine take_ (i:=12) (N:=some 161) (v:=?_) (a':=?_) #[T,T,T,T,T,T,T,T,T,T,T,T,T,F,T,F,F,F,F,F,F,F,F,F,F,F,F,F,F,F,F,F,F,F,F] rfl rfl (take_ofW HT_.out HW_.out (by kernel_rfl)) (fun _ _ _ h => h) (Or.inl ⟨by rfl,?_⟩) hHeld ?_ ?_
         rotate_left
         ·rintro w' ⟨s0,s1,s2,s3,s4,s5⟩
          go_simp
          with_reducible rfl
         rotate_left
         ·simp only [Act.put,Q2,Q0,Q1,i64_w,i32_w]
          rfl
         refine take_ (i:=15) (N:=some 164) (v:=?_) (a':=?_) #[T,T,T,T,T,T,T,T,T,T,T,T,T,F,T,T,F,F,F,F,F,F,F,F,F,F,F,F,F,F,F,F,F,F,F] rfl rfl (take_ofW HT_.out HW_.out (by kernel_rfl)) (fun _ _ _ h => h) (Or.inl ⟨by rfl,?_⟩) hHeld ?_ ?_
         rotate_left
         ·rintro w' ⟨s0,s1,s2,s3,s4,s5⟩
          go_simp
          with_reducible rfl
         rotate_left
         ·simp only [Act.put,Q2,Q0,Q1,i64_w,i32_w]
          rfl
         refine take_ (i:=16) (N:=some 165) (v:=?_) (a':=?_) #[T,T,T,T,T,T,T,T,T,T,T,T,T,F,T,T,T,F,F,F,F,F,F,F,F,F,F,F,F,F,F,F,F,F,F] rfl rfl (take_ofW HT_.out HW_.out (by kernel_rfl)) (fun _ _ _ h => h) (Or.inl ⟨by rfl,?_⟩) hHeld ?_ ?_
         rotate_left
         ·rintro w' ⟨s0,s1,s2,s3,s4,s5⟩
          go_simp
          with_reducible rfl
         rotate_left
         ·simp only [Act.put,Q2,Q0,Q1,i64_w,i32_w]
          rfl
         refine one_ (i:=13) (N:=some 162) #[T,T,T,T,T,T,T,T,T,T,T,T,T,T,T,T,T,F,F,F,F,F,F,F,F,F,F,F,F,F,F,F,F,F,F] rfl rfl (one_of HT_.out (by kernel_rfl)) (by decide) (fun K hK => ?_)
         refine goes_ Try.func19 (by kernel_rfl) rfl #[.int .i64 a0,.agg #[.int .u32 a3_0,.int .u32 a3_1,.int .u32 a3_2,.int .u32 a3_3],.agg #[.int .i64 a4_0,.int .i64 a4_1]] (by rfl) rfl rfl (by (try simp only [List.map_toArray,List.map_cons,List.map_nil]);first|done|rfl|(simp only [List.length_drop,List.length_take];rfl)) ?_
         with_reducible refine (signature_Verify.calls k2 a0 a3_0 a3_1 a3_2 a3_3 a4_0 a4_1 t313 _ A163.out).mono ?_
         rintro e w188 ⟨rfl,hb⟩
         refine ⟨_,rfl,?_⟩
         have n0_:=AK (D6 (g:=gb271) (o:=.cells #[.int .u32 a3_0,.int .u32 a3_1,.int .u32 a3_2,.int .u32 a3_3] 24 (0,0)) (by (with_reducible repeat (first|refine D1 ?_ _|refine D2 ?_|refine D3 ?_ _));exact BK271.out) hb)
         have n1_:=AK (D6 (g:=gb272) (o:=.cells #[.int .i64 a4_0,.int .i64 a4_1] 26 (0,0)) (by (with_reducible repeat (first|refine D1 ?_ _|refine D2 ?_|refine D3 ?_ _));exact BK272.out) hb)
         have n2_:=AK (D6 (g:=gb281) (o:=.cells #[.int .i64 t278,.int .i64 t279] 26 (0,0)) (by (with_reducible repeat (first|refine D1 ?_ _|refine D2 ?_|refine D3 ?_ _));exact BK281.out) hb)
         have n3_:=AK (D6 (g:=gb285) (o:=.cells #[.int .i64 t282,.int .i64 t283] 26 (0,0)) (by (with_reducible repeat (first|refine D1 ?_ _|refine D2 ?_|refine D3 ?_ _));exact BK285.out) hb)
         have n4_:=AK (D6 (g:=gb289) (o:=.cells #[.int .i64 t286,.int .i64 t287] 26 (0,0)) (by (with_reducible repeat (first|refine D1 ?_ _|refine D2 ?_|refine D3 ?_ _));exact BK289.out) hb)
         have n5_:=AK (D6 (g:=gb293) (o:=.cells #[.int .i64 t290,.int .i64 t291] 26 (0,0)) (by (with_reducible repeat (first|refine D1 ?_ _|refine D2 ?_|refine D3 ?_ _));exact BK293.out) hb)
         have n6_:=AK (below_step (by repeat (first|(with_reducible first|exact HB.out|apply below_alloc|apply D7|apply below_drew1|refine D4 ?_ GE271.out|refine D4 ?_ GE272.out|refine D4 ?_ GE281.out|refine D4 ?_ GE285.out|refine D4 ?_ GE289.out|refine D4 ?_ GE293.out)|exact HB.out)) hb)
         clear BK271
         clear BK272
         clear BK281
         clear BK285
         clear BK289
         clear BK293
         clear HB
         have BK271:=n0_
         have BK272:=n1_
         have BK281:=n2_
         have BK285:=n3_
         have BK289:=n4_
         have BK293:=n5_
         have HB:=n6_
         clear n0_ n1_ n2_ n3_ n4_ n5_ n6_
         (try clear hb)
         (try clear hb2)
         (try clear hk)
         (try clear hi)
         refine hK.out _ _ ⟨(D5 BK271.out 0).trans rfl,(D5 BK271.out 1).trans rfl,(D5 BK271.out 2).trans rfl,(D5 BK271.out 3).trans rfl,(D5 BK272.out 0).trans rfl,(D5 BK272.out 1).trans rfl⟩ (fun hHeld => ?_)
         clear hK K
         refine norm_ (a':=?_) ?_ ?_
         rotate_left
         ·show Act.put _ (some 162) _ = _
          simp only [Act.put,Q2,Q0,Q1,i64_w,i32_w]
          rfl
         refine one_ (i:=17) (N:=some 166) #[T,T,T,T,T,T,T,T,T,T,T,T,T,T,T,T,T,T,F,F,F,F,F,F,F,F,F,F,F,F,F,F,F,F,F] rfl rfl (one_of HT_.out (by kernel_rfl)) (by decide) (fun K hK => ?_)
         refine goes_ Try.func20 (by kernel_rfl) rfl #[.int .i64 a0,.agg #[.int .u32 a3_0,.int .u32 a3_1,.int .u32 a3_2,.int .u32 a3_3],.agg #[.int .i64 a4_0,.int .i64 a4_1]] (by rfl) rfl rfl (by (try simp only [List.map_toArray,List.map_cons,List.map_nil]);first|done|rfl|(simp only [List.length_drop,List.length_take];rfl)) ?_
         with_reducible refine (awardingbodyref41_Verify.calls k2 a0 a3_0 a3_1 a3_2 a3_3 a4_0 a4_1 t314 _ A164.out).mono ?_
         rintro e w189 ⟨rfl,hb⟩
         refine ⟨_,rfl,?_⟩
         have n0_:=AK (D6 (g:=gb271) (o:=.cells #[.int .u32 a3_0,.int .u32 a3_1,.int .u32 a3_2,.int .u32 a3_3] 24 (0,0)) (by (with_reducible repeat (first|refine D1 ?_ _|refine D2 ?_|refine D3 ?_ _));exact BK271.out) hb)
         have n1_:=AK (D6 (g:=gb272) (o:=.cells #[.int .i64 a4_0,.int .i64 a4_1] 26 (0,0)) (by (with_reducible repeat (first|refine D1 ?_ _|refine D2 ?_|refine D3 ?_ _));exact BK272.out) hb)
         have n2_:=AK (D6 (g:=gb281) (o:=.cells #[.int .i64 t278,.int .i64 t279] 26 (0,0)) (by (with_reducible repeat (first|refine D1 ?_ _|refine D2 ?_|refine D3 ?_ _));exact BK281.out) hb)
         have n3_:=AK (D6 (g:=gb285) (o:=.cells #[.int .i64 t282,.int .i64 t283] 26 (0,0)) (by (with_reducible repeat (first|refine D1 ?_ _|refine D2 ?_|refine D3 ?_ _));exact BK285.out) hb)
         have n4_:=AK (D6 (g:=gb289) (o:=.cells #[.int .i64 t286,.int .i64 t287] 26 (0,0)) (by (with_reducible repeat (first|refine D1 ?_ _|refine D2 ?_|refine D3 ?_ _));exact BK289.out) hb)
         have n5_:=AK (D6 (g:=gb293) (o:=.cells #[.int .i64 t290,.int .i64 t291] 26 (0,0)) (by (with_reducible repeat (first|refine D1 ?_ _|refine D2 ?_|refine D3 ?_ _));exact BK293.out) hb)
         have n6_:=AK (below_step (by repeat (first|(with_reducible first|exact HB.out|apply below_alloc|apply D7|apply below_drew1|refine D4 ?_ GE271.out|refine D4 ?_ GE272.out|refine D4 ?_ GE281.out|refine D4 ?_ GE285.out|refine D4 ?_ GE289.out|refine D4 ?_ GE293.out)|exact HB.out)) hb)
         clear BK271
         clear BK272
         clear BK281
         clear BK285
         clear BK289
         clear BK293
         clear HB
         have BK271:=n0_
         have BK272:=n1_
         have BK281:=n2_
         have BK285:=n3_
         have BK289:=n4_
         have BK293:=n5_
         have HB:=n6_
         clear n0_ n1_ n2_ n3_ n4_ n5_ n6_
         (try clear hb)
         (try clear hb2)
         (try clear hk)
         (try clear hi)
         refine hK.out _ _ ⟨(D5 BK271.out 0).trans rfl,(D5 BK271.out 1).trans rfl,(D5 BK271.out 2).trans rfl,(D5 BK271.out 3).trans rfl,(D5 BK272.out 0).trans rfl,(D5 BK272.out 1).trans rfl⟩ (fun hHeld => ?_)
         clear hK K
         refine norm_ (a':=?_) ?_ ?_
         rotate_left
         ·show Act.put _ (some 166) _ = _
          simp only [Act.put,Q2,Q0,Q1,i64_w,i32_w]
          rfl
         refine pure_ (i:=18) (N:=some 167) (v:=?_) (a':=?_) #[T,T,T,T,T,T,T,T,T,T,T,T,T,T,T,T,T,T,T,F,F,F,F,F,F,F,F,F,F,F,F,F,F,F,F] rfl rfl (any_of HT_.out (by kernel_rfl)) (fun _ _ _ h => h) (Or.inl ⟨by rfl,?_⟩) ?_ ?_
         rotate_left
         ·intro w'
          go_simp
          with_reducible rfl
         rotate_left
         ·simp only [Act.put,Q2,Q0,Q1,i64_w,i32_w]
          rfl
         refine pure_ (i:=19) (N:=some 168) (v:=?_) (a':=?_) #[T,T,T,T,T,T,T,T,T,T,T,T,T,T,T,T,T,T,T,T,F,F,F,F,F,F,F,F,F,F,F,F,F,F,F] rfl rfl (any_of HT_.out (by kernel_rfl)) (fun _ _ _ h => h) (Or.inl ⟨by rfl,?_⟩) ?_ ?_
         rotate_left
         ·intro w'
          go_simp
          with_reducible rfl
         rotate_left
         ·simp only [Act.put,Q2,Q0,Q1,i64_w,i32_w]
          rfl
         refine pure_ (i:=20) (N:=some 169) (v:=?_) (a':=?_) #[T,T,T,T,T,T,T,T,T,T,T,T,T,T,T,T,T,T,T,T,T,F,F,F,F,F,F,F,F,F,F,F,F,F,F] rfl rfl (any_of HT_.out (by kernel_rfl)) (fun _ _ _ h => h) (Or.inl ⟨by rfl,?_⟩) ?_ ?_
         rotate_left
         ·intro w'
          go_simp
          with_reducible rfl
         rotate_left
         ·simp only [Act.put,Q2,Q0,Q1,i64_w,i32_w]
          rfl
         refine pure_ (i:=21) (N:=some 170) (v:=undef) (a':=?_) #[T,T,T,T,T,T,T,T,T,T,T,T,T,T,T,T,T,T,T,T,T,T,F,F,F,F,F,F,F,F,F,F,F,F,F] rfl rfl (any_of HT_.out (by kernel_rfl)) (fun _ _ _ h => h) (Or.inr ⟨by rfl,rfl⟩) ?_ ?_
         rotate_left
         ·simp only [Act.put,Q2,Q0,Q1,i64_w,i32_w]
          rfl
         refine pure_ (i:=22) (N:=some 171) (v:=undef) (a':=?_) #[T,T,T,T,T,T,T,T,T,T,T,T,T,T,T,T,T,T,T,T,T,T,T,F,F,F,F,F,F,F,F,F,F,F,F] rfl rfl (any_of HT_.out (by kernel_rfl)) (fun _ _ _ h => h) (Or.inr ⟨by rfl,rfl⟩) ?_ ?_
         rotate_left
         ·simp only [Act.put,Q2,Q0,Q1,i64_w,i32_w]
          rfl
         refine pure_ (i:=23) (N:=some 172) (v:=undef) (a':=?_) #[T,T,T,T,T,T,T,T,T,T,T,T,T,T,T,T,T,T,T,T,T,T,T,T,F,F,F,F,F,F,F,F,F,F,F] rfl rfl (any_of HT_.out (by kernel_rfl)) (fun _ _ _ h => h) (Or.inr ⟨by rfl,rfl⟩) ?_ ?_
         rotate_left
         ·simp only [Act.put,Q2,Q0,Q1,i64_w,i32_w]
          rfl
         refine pure_ (i:=24) (N:=some 173) (v:=undef) (a':=?_) #[T,T,T,T,T,T,T,T,T,T,T,T,T,T,T,T,T,T,T,T,T,T,T,T,T,F,F,F,F,F,F,F,F,F,F] rfl rfl (any_of HT_.out (by kernel_rfl)) (fun _ _ _ h => h) (Or.inr ⟨by rfl,rfl⟩) ?_ ?_
         rotate_left
         ·simp only [Act.put,Q2,Q0,Q1,i64_w,i32_w]
          rfl
         refine pure_ (i:=25) (N:=some 174) (v:=undef) (a':=?_) #[T,T,T,T,T,T,T,T,T,T,T,T,T,T,T,T,T,T,T,T,T,T,T,T,T,T,F,F,F,F,F,F,F,F,F] rfl rfl (any_of HT_.out (by kernel_rfl)) (fun _ _ _ h => h) (Or.inr ⟨by rfl,rfl⟩) ?_ ?_
         rotate_left
         ·simp only [Act.put,Q2,Q0,Q1,i64_w,i32_w]
          rfl
         refine pure_ (i:=26) (N:=some 175) (v:=undef) (a':=?_) #[T,T,T,T,T,T,T,T,T,T,T,T,T,T,T,T,T,T,T,T,T,T,T,T,T,T,T,F,F,F,F,F,F,F,F] rfl rfl (any_of HT_.out (by kernel_rfl)) (fun _ _ _ h => h) (Or.inr ⟨by rfl,rfl⟩) ?_ ?_
         rotate_left
         ·simp only [Act.put,Q2,Q0,Q1,i64_w,i32_w]
          rfl
         refine pure_ (i:=27) (N:=some 176) (v:=undef) (a':=?_) #[T,T,T,T,T,T,T,T,T,T,T,T,T,T,T,T,T,T,T,T,T,T,T,T,T,T,T,T,F,F,F,F,F,F,F] rfl rfl (any_of HT_.out (by kernel_rfl)) (fun _ _ _ h => h) (Or.inr ⟨by rfl,rfl⟩) ?_ ?_
         rotate_left
         ·simp only [Act.put,Q2,Q0,Q1,i64_w,i32_w]
          rfl
         refine pure_ (i:=28) (N:=some 177) (v:=undef) (a':=?_) #[T,T,T,T,T,T,T,T,T,T,T,T,T,T,T,T,T,T,T,T,T,T,T,T,T,T,T,T,T,F,F,F,F,F,F] rfl rfl (any_of HT_.out (by kernel_rfl)) (fun _ _ _ h => h) (Or.inr ⟨by rfl,rfl⟩) ?_ ?_
         rotate_left
         ·simp only [Act.put,Q2,Q0,Q1,i64_w,i32_w]
          rfl
         refine pure_ (i:=29) (N:=some 178) (v:=undef) (a':=?_) #[T,T,T,T,T,T,T,T,T,T,T,T,T,T,T,T,T,T,T,T,T,T,T,T,T,T,T,T,T,T,F,F,F,F,F] rfl rfl (any_of HT_.out (by kernel_rfl)) (fun _ _ _ h => h) (Or.inr ⟨by rfl,rfl⟩) ?_ ?_
         rotate_left
         ·simp only [Act.put,Q2,Q0,Q1,i64_w,i32_w]
          rfl
         refine pure_ (i:=30) (N:=some 179) (v:=?_) (a':=?_) #[T,T,T,T,T,T,T,T,T,T,T,T,T,T,T,T,T,T,T,T,T,T,T,T,T,T,T,T,T,T,T,F,F,F,F] rfl rfl (any_of HT_.out (by kernel_rfl)) (fun _ _ _ h => h) (Or.inl ⟨by rfl,?_⟩) ?_ ?_
         rotate_left
         ·intro w'
          go_simp
          with_reducible rfl
         rotate_left
         ·simp only [Act.put,Q2,Q0,Q1,i64_w,i32_w]
          rfl
         refine pure_ (i:=31) (N:=some 180) (v:=?_) (a':=?_) #[T,T,T,T,T,T,T,T,T,T,T,T,T,T,T,T,T,T,T,T,T,T,T,T,T,T,T,T,T,T,T,T,F,F,F] rfl rfl (any_of HT_.out (by kernel_rfl)) (fun _ _ _ h => h) (Or.inl ⟨by rfl,?_⟩) ?_ ?_
         rotate_left
         ·intro w'
          go_simp
          with_reducible rfl
         rotate_left
         ·simp only [Act.put,Q2,Q0,Q1,i64_w,i32_w]
          rfl
         refine pure_ (i:=32) (N:=some 181) (v:=undef) (a':=?_) #[T,T,T,T,T,T,T,T,T,T,T,T,T,T,T,T,T,T,T,T,T,T,T,T,T,T,T,T,T,T,T,T,T,F,F] rfl rfl (any_of HT_.out (by kernel_rfl)) (fun _ _ _ h => h) (Or.inr ⟨by rfl,rfl⟩) ?_ ?_
         rotate_left
         ·simp only [Act.put,Q2,Q0,Q1,i64_w,i32_w]
          rfl
         refine pure_ (i:=33) (N:=some 182) (v:=?_) (a':=?_) #[T,T,T,T,T,T,T,T,T,T,T,T,T,T,T,T,T,T,T,T,T,T,T,T,T,T,T,T,T,T,T,T,T,T,F] rfl rfl (any_of HT_.out (by kernel_rfl)) (fun _ _ _ h => h) (Or.inl ⟨by rfl,?_⟩) ?_ ?_
         rotate_left
         ·intro w'
          go_simp
          with_reducible rfl
         rotate_left
         ·simp only [Act.put,Q2,Q0,Q1,i64_w,i32_w]
          rfl
         refine pure_ (i:=34) (N:=some 10) (v:=?_) (a':=?_) #[T,T,T,T,T,T,T,T,T,T,T,T,T,T,T,T,T,T,T,T,T,T,T,T,T,T,T,T,T,T,T,T,T,T,T] rfl rfl (any_of HT_.out (by kernel_rfl)) (fun _ _ _ h => h) (Or.inl ⟨by rfl,?_⟩) ?_ ?_
         rotate_left
         ·intro w'
          go_simp
          with_reducible rfl
         rotate_left
         ·simp only [Act.put,Q2,Q0,Q1,i64_w,i32_w]
          rfl
         refine done_ (done_of HT_.out (by kernel_rfl)) ?_
         try go_wp2
         go_ret
         exact ⟨by first|rfl|(simp [errW_none,errW_some] <;> rfl)|(simp [*,errW_none,errW_some] <;> rfl),by repeat (first|(with_reducible first|exact HB.out|apply below_alloc|apply D7|apply below_drew1|refine D4 ?_ GE271.out|refine D4 ?_ GE272.out|refine D4 ?_ GE281.out|refine D4 ?_ GE285.out|refine D4 ?_ GE289.out|refine D4 ?_ GE293.out)|exact HB.out)⟩
       ·rw [if_neg c162] at H
        have c162b0 : (t311 == t312) = false:=by simpa using c162
        (try (have c162b1 : decide (t311 = t312) = false:=by simpa using c162))
        (try (have c162b2 : (t311 == t312) = false:=by simpa using c162))
        (try (have c162b3 : ¬ (t311 = t312):=by simpa using c162))
        clear c162
        obtain rfl:=Option.some.inj H
        try go_wp2_with (first|((with_reducible refine gate_callee (f:=10) rfl ?_);refine goesL_ (some 146) rfl rfl Try.func10 (by kernel_rfl) rfl #[.int .i64 (wrap64 (1 + t273))] rfl (by (try simp only [List.map_toArray,List.map_cons,List.map_nil]);first|done|rfl|(simp only [List.length_drop,List.length_take];rfl)) ?_;(with_reducible refine (awardingbodyref41_Public.calls k2 (wrap64 (1 + t273)) t309 t310 _ A159.out).mono ?_);rintro e w' ⟨rfl,⟨nd,rfl⟩⟩;refine ⟨_,rfl,?_⟩))
        (try (rw [drewN_self wr];generalize hq_ : World.drewN wr _ = wr;have n0_ : Aside0 (wr.heap[gb271]? = some (.cells #[.int .u32 a3_0,.int .u32 a3_1,.int .u32 a3_2,.int .u32 a3_3] 24 (0,0))):=⟨by rw [← hq_];exact (by (with_reducible repeat (first|refine D1 ?_ _|refine D2 ?_|refine D3 ?_ _));exact BK271.out)⟩;have n1_ : Aside0 (wr.heap[gb272]? = some (.cells #[.int .i64 a4_0,.int .i64 a4_1] 26 (0,0))):=⟨by rw [← hq_];exact (by (with_reducible repeat (first|refine D1 ?_ _|refine D2 ?_|refine D3 ?_ _));exact BK272.out)⟩;have n2_ : Aside0 (wr.heap[gb281]? = some (.cells #[.int .i64 t278,.int .i64 t279] 26 (0,0))):=⟨by rw [← hq_];exact (by (with_reducible repeat (first|refine D1 ?_ _|refine D2 ?_|refine D3 ?_ _));exact BK281.out)⟩;have n3_ : Aside0 (wr.heap[gb285]? = some (.cells #[.int .i64 t282,.int .i64 t283] 26 (0,0))):=⟨by rw [← hq_];exact (by (with_reducible repeat (first|refine D1 ?_ _|refine D2 ?_|refine D3 ?_ _));exact BK285.out)⟩;have n4_ : Aside0 (wr.heap[gb289]? = some (.cells #[.int .i64 t286,.int .i64 t287] 26 (0,0))):=⟨by rw [← hq_];exact (by (with_reducible repeat (first|refine D1 ?_ _|refine D2 ?_|refine D3 ?_ _));exact BK289.out)⟩;have n5_ : Aside0 (wr.heap[gb293]? = some (.cells #[.int .i64 t290,.int .i64 t291] 26 (0,0))):=⟨by rw [← hq_];exact (by (with_reducible repeat (first|refine D1 ?_ _|refine D2 ?_|refine D3 ?_ _));exact BK293.out)⟩;have n6_ : Aside0 (Below w.heap.size w wr):=⟨by rw [← hq_];exact (by repeat (first|(with_reducible first|exact HB.out|apply below_alloc|apply D7|apply below_drew1|refine D4 ?_ GE271.out|refine D4 ?_ GE272.out|refine D4 ?_ GE281.out|refine D4 ?_ GE285.out|refine D4 ?_ GE289.out|refine D4 ?_ GE293.out)|exact HB.out))⟩;clear BK271 BK272 BK281 BK285 BK289 BK293 HB hq_;have BK271:=n0_;have BK272:=n1_;have BK281:=n2_;have BK285:=n3_;have BK289:=n4_;have BK293:=n5_;have HB:=n6_;clear n0_ n1_ n2_ n3_ n4_ n5_ n6_))
        have n0_:=AK (D2 BK271.out)
        have n1_:=AK (D2 BK272.out)
        have n2_:=AK (D2 BK281.out)
        have n3_:=AK (D2 BK285.out)
        have n4_:=AK (D2 BK289.out)
        have n5_:=AK (D2 BK293.out)
        have n6_:=AK (below_drew1 HB.out)
        clear BK271
        clear BK272
        clear BK281
        clear BK285
        clear BK289
        clear BK293
        clear HB
        have BK271:=n0_
        have BK272:=n1_
        have BK281:=n2_
        have BK285:=n3_
        have BK289:=n4_
        have BK293:=n5_
        have HB:=n6_
        clear n0_ n1_ n2_ n3_ n4_ n5_ n6_
        refine start_ (n:=35) (S:=fun w' => w'.cell? ⟨gb271,0,none⟩ = some (.int .u32 a3_0) ∧ w'.cell? ⟨gb271,1,none⟩ = some (.int .u32 a3_1) ∧ w'.cell? ⟨gb271,2,none⟩ = some (.int .u32 a3_2) ∧ w'.cell? ⟨gb271,3,none⟩ = some (.int .u32 a3_3) ∧ w'.cell? ⟨gb272,0,none⟩ = some (.int .i64 a4_0) ∧ w'.cell? ⟨gb272,1,none⟩ = some (.int .i64 a4_1)) (ds:=[]) #[F,F,F,F,F,F,F,F,F,F,F,F,F,F,F,F,F,F,F,F,F,F,F,F,F,F,F,F,F,F,F,F,F,F,F] (by kernel_rfl) rfl rfl ⟨(D5 BK271.out 0).trans rfl,(D5 BK271.out 1).trans rfl,(D5 BK271.out 2).trans rfl,(D5 BK271.out 3).trans rfl,(D5 BK272.out 0).trans rfl,(D5 BK272.out 1).trans rfl⟩ (fun hHeld => ?_);refine with_tabW awardingbodylaw41_SignatureExact.tab17 awardingbodylaw41_SignatureExact.bits17 (fun HT_ HW_ => ?_)
        generalize wr.drew = w190 at BK271 BK272 BK281 BK285 BK289 BK293 HB hHeld ⊢
        refine pure_ (i:=0) (N:=some 149) (v:=?_) (a':=?_) #[T,F,F,F,F,F,F,F,F,F,F,F,F,F,F,F,F,F,F,F,F,F,F,F,F,F,F,F,F,F,F,F,F,F,F] rfl rfl (any_of HT_.out (by kernel_rfl)) (fun _ _ _ h => h) (Or.inl ⟨by rfl,?_⟩) ?_ ?_
        rotate_left
        ·intro w'
         go_simp
         with_reducible rfl
        rotate_left
        ·simp only [Act.put,Q2,Q0,Q1,i64_w,i32_w]
         rfl
        refine pure_ (i:=4) (N:=some 153) (v:=?_) (a':=?_) #[T,F,F,F,T,F,F,F,F,F,F,F,F,F,F,F,F,F,F,F,F,F,F,F,F,F,F,F,F,F,F,F,F,F,F] rfl rfl (any_of HT_.out (by kernel_rfl)) (fun _ _ _ h => h) (Or.inl ⟨by rfl,?_⟩) ?_ ?_
        rotate_left
        ·intro w'
         go_simp
         with_reducible rfl
        rotate_left
        ·simp only [Act.put,Q2,Q0,Q1,i64_w,i32_w]
         rfl
        refine take_ (i:=1) (N:=some 150) (v:=?_) (a':=?_) #[T,T,F,F,T,F,F,F,F,F,F,F,F,F,F,F,F,F,F,F,F,F,F,F,F,F,F,F,F,F,F,F,F,F,F] rfl rfl (take_ofW HT_.out HW_.out (by kernel_rfl)) (fun _ _ _ h => h) (Or.inl ⟨by rfl,?_⟩) hHeld ?_ ?_
        rotate_left
        ·rintro w' ⟨s0,s1,s2,s3,s4,s5⟩
         go_simp
         with_reducible rfl
        rotate_left
        ·simp only [Act.put,Q2,Q0,Q1,i64_w,i32_w]
         rfl
        refine take_ (i:=2) (N:=some 151) (v:=?_) (a':=?_) #[T,T,T,F,T,F,F,F,F,F,F,F,F,F,F,F,F,F,F,F,F,F,F,F,F,F,F,F,F,F,F,F,F,F,F] rfl rfl (take_ofW HT_.out HW_.out (by kernel_rfl)) (fun _ _ _ h => h) (Or.inl ⟨by rfl,?_⟩) hHeld ?_ ?_
        rotate_left
        ·rintro w' ⟨s0,s1,s2,s3,s4,s5⟩
         go_simp
         with_reducible rfl
        rotate_left
        ·simp only [Act.put,Q2,Q0,Q1,i64_w,i32_w]
         rfl
        refine take_ (i:=5) (N:=some 154) (v:=?_) (a':=?_) #[T,T,T,F,T,T,F,F,F,F,F,F,F,F,F,F,F,F,F,F,F,F,F,F,F,F,F,F,F,F,F,F,F,F,F] rfl rfl (take_ofW HT_.out HW_.out (by kernel_rfl)) (fun _ _ _ h => h) (Or.inl ⟨by rfl,?_⟩) hHeld ?_ ?_
        rotate_left
        ·rintro w' ⟨s0,s1,s2,s3,s4,s5⟩
         go_simp
         with_reducible rfl
        rotate_left
        ·simp only [Act.put,Q2,Q0,Q1,i64_w,i32_w]
         rfl
        refine take_ (i:=6) (N:=some 155) (v:=?_) (a':=?_) #[T,T,T,F,T,T,T,F,F,F,F,F,F,F,F,F,F,F,F,F,F,F,F,F,F,F,F,F,F,F,F,F,F,F,F] rfl rfl (take_ofW HT_.out HW_.out (by kernel_rfl)) (fun _ _ _ h => h) (Or.inl ⟨by rfl,?_⟩) hHeld ?_ ?_
        rotate_left
        ·rintro w' ⟨s0,s1,s2,s3,s4,s5⟩
         go_simp
         with_reducible rfl
        rotate_left
        ·simp only [Act.put,Q2,Q0,Q1,i64_w,i32_w]
         rfl
        refine one_ (i:=3) (N:=some 152) #[T,T,T,T,T,T,T,F,F,F,F,F,F,F,F,F,F,F,F,F,F,F,F,F,F,F,F,F,F,F,F,F,F,F,F] rfl rfl (one_of HT_.out (by kernel_rfl)) (by decide) (fun K hK => ?_)
        refine goes_ Try.func19 (by kernel_rfl) rfl #[.int .i64 t309,.agg #[.int .u32 a3_0,.int .u32 a3_1,.int .u32 a3_2,.int .u32 a3_3],.agg #[.int .i64 a4_0,.int .i64 a4_1]] (by rfl) rfl rfl (by (try simp only [List.map_toArray,List.map_cons,List.map_nil]);first|done|rfl|(simp only [List.length_drop,List.length_take];rfl)) ?_
        with_reducible refine (signature_Verify.calls k2 t309 a3_0 a3_1 a3_2 a3_3 a4_0 a4_1 t311 _ A160.out).mono ?_
        rintro e w191 ⟨rfl,hb⟩
        refine ⟨_,rfl,?_⟩
        have n0_:=AK (D6 (g:=gb271) (o:=.cells #[.int .u32 a3_0,.int .u32 a3_1,.int .u32 a3_2,.int .u32 a3_3] 24 (0,0)) (by (with_reducible repeat (first|refine D1 ?_ _|refine D2 ?_|refine D3 ?_ _));exact BK271.out) hb)
        have n1_:=AK (D6 (g:=gb272) (o:=.cells #[.int .i64 a4_0,.int .i64 a4_1] 26 (0,0)) (by (with_reducible repeat (first|refine D1 ?_ _|refine D2 ?_|refine D3 ?_ _));exact BK272.out) hb)
        have n2_:=AK (D6 (g:=gb281) (o:=.cells #[.int .i64 t278,.int .i64 t279] 26 (0,0)) (by (with_reducible repeat (first|refine D1 ?_ _|refine D2 ?_|refine D3 ?_ _));exact BK281.out) hb)
        have n3_:=AK (D6 (g:=gb285) (o:=.cells #[.int .i64 t282,.int .i64 t283] 26 (0,0)) (by (with_reducible repeat (first|refine D1 ?_ _|refine D2 ?_|refine D3 ?_ _));exact BK285.out) hb)
        have n4_:=AK (D6 (g:=gb289) (o:=.cells #[.int .i64 t286,.int .i64 t287] 26 (0,0)) (by (with_reducible repeat (first|refine D1 ?_ _|refine D2 ?_|refine D3 ?_ _));exact BK289.out) hb)
        have n5_:=AK (D6 (g:=gb293) (o:=.cells #[.int .i64 t290,.int .i64 t291] 26 (0,0)) (by (with_reducible repeat (first|refine D1 ?_ _|refine D2 ?_|refine D3 ?_ _));exact BK293.out) hb)
        have n6_:=AK (below_step (by repeat (first|(with_reducible first|exact HB.out|apply below_alloc|apply D7|apply below_drew1|refine D4 ?_ GE271.out|refine D4 ?_ GE272.out|refine D4 ?_ GE281.out|refine D4 ?_ GE285.out|refine D4 ?_ GE289.out|refine D4 ?_ GE293.out)|exact HB.out)) hb)
        clear BK271
        clear BK272
        clear BK281
        clear BK285
        clear BK289
        clear BK293
        clear HB
        have BK271:=n0_
        have BK272:=n1_
        have BK281:=n2_
        have BK285:=n3_
        have BK289:=n4_
        have BK293:=n5_
        have HB:=n6_
        clear n0_ n1_ n2_ n3_ n4_ n5_ n6_
        (try clear hb)
        (try clear hb2)
        (try clear hk)
        (try clear hi)
        refine hK.out _ _ ⟨(D5 BK271.out 0).trans rfl,(D5 BK271.out 1).trans rfl,(D5 BK271.out 2).trans rfl,(D5 BK271.out 3).trans rfl,(D5 BK272.out 0).trans rfl,(D5 BK272.out 1).trans rfl⟩ (fun hHeld => ?_)
        clear hK K
        refine norm_ (a':=?_) ?_ ?_
        rotate_left
        ·show Act.put _ (some 152) _ = _
         simp only [Act.put,Q2,Q0,Q1,i64_w,i32_w]
         rfl
        refine one_ (i:=7) (N:=some 156) #[T,T,T,T,T,T,T,T,F,F,F,F,F,F,F,F,F,F,F,F,F,F,F,F,F,F,F,F,F,F,F,F,F,F,F] rfl rfl (one_of HT_.out (by kernel_rfl)) (by decide) (fun K hK => ?_)
        refine goes_ Try.func20 (by kernel_rfl) rfl #[.int .i64 t309,.agg #[.int .u32 a3_0,.int .u32 a3_1,.int .u32 a3_2,.int .u32 a3_3],.agg #[.int .i64 a4_0,.int .i64 a4_1]] (by rfl) rfl rfl (by (try simp only [List.map_toArray,List.map_cons,List.map_nil]);first|done|rfl|(simp only [List.length_drop,List.length_take];rfl)) ?_
        with_reducible refine (awardingbodyref41_Verify.calls k2 t309 a3_0 a3_1 a3_2 a3_3 a4_0 a4_1 t312 _ A161.out).mono ?_
        rintro e w192 ⟨rfl,hb⟩
        refine ⟨_,rfl,?_⟩
        have n0_:=AK (D6 (g:=gb271) (o:=.cells #[.int .u32 a3_0,.int .u32 a3_1,.int .u32 a3_2,.int .u32 a3_3] 24 (0,0)) (by (with_reducible repeat (first|refine D1 ?_ _|refine D2 ?_|refine D3 ?_ _));exact BK271.out) hb)
        have n1_:=AK (D6 (g:=gb272) (o:=.cells #[.int .i64 a4_0,.int .i64 a4_1] 26 (0,0)) (by (with_reducible repeat (first|refine D1 ?_ _|refine D2 ?_|refine D3 ?_ _));exact BK272.out) hb)
        have n2_:=AK (D6 (g:=gb281) (o:=.cells #[.int .i64 t278,.int .i64 t279] 26 (0,0)) (by (with_reducible repeat (first|refine D1 ?_ _|refine D2 ?_|refine D3 ?_ _));exact BK281.out) hb)
        have n3_:=AK (D6 (g:=gb285) (o:=.cells #[.int .i64 t282,.int .i64 t283] 26 (0,0)) (by (with_reducible repeat (first|refine D1 ?_ _|refine D2 ?_|refine D3 ?_ _));exact BK285.out) hb)
        have n4_:=AK (D6 (g:=gb289) (o:=.cells #[.int .i64 t286,.int .i64 t287] 26 (0,0)) (by (with_reducible repeat (first|refine D1 ?_ _|refine D2 ?_|refine D3 ?_ _));exact BK289.out) hb)
        have n5_:=AK (D6 (g:=gb293) (o:=.cells #[.int .i64 t290,.int .i64 t291] 26 (0,0)) (by (with_reducible repeat (first|refine D1 ?_ _|refine D2 ?_|refine D3 ?_ _));exact BK293.out) hb)
        have n6_:=AK (below_step (by repeat (first|(with_reducible first|exact HB.out|apply below_alloc|apply D7|apply below_drew1|refine D4 ?_ GE271.out|refine D4 ?_ GE272.out|refine D4 ?_ GE281.out|refine D4 ?_ GE285.out|refine D4 ?_ GE289.out|refine D4 ?_ GE293.out)|exact HB.out)) hb)
        clear BK271
        clear BK272
        clear BK281
        clear BK285
        clear BK289
        clear BK293
        clear HB
        have BK271:=n0_
        have BK272:=n1_
        have BK281:=n2_
        have BK285:=n3_
        have BK289:=n4_
        have BK293:=n5_
        have HB:=n6_
        clear n0_ n1_ n2_ n3_ n4_ n5_ n6_
        (try clear hb)
        (try clear hb2)
        (try clear hk)
        (try clear hi)
        refine hK.out _ _ ⟨(D5 BK271.out 0).trans rfl,(D5 BK271.out 1).trans rfl,(D5 BK271.out 2).trans rfl,(D5 BK271.out 3).trans rfl,(D5 BK272.out 0).trans rfl,(D5 BK272.out 1).trans rfl⟩ (fun hHeld => ?_)
        clear hK K
        refine norm_ (a':=?_) ?_ ?_
        rotate_left
        ·show Act.put _ (some 156) _ = _
         simp only [Act.put,Q2,Q0,Q1,i64_w,i32_w]
         rfl
        refine pure_ (i:=8) (N:=some 157) (v:=?_) (a':=?_) #[T,T,T,T,T,T,T,T,T,F,F,F,F,F,F,F,F,F,F,F,F,F,F,F,F,F,F,F,F,F,F,F,F,F,F] rfl rfl (any_of HT_.out (by kernel_rfl)) (fun _ _ _ h => h) (Or.inl ⟨by rfl,?_⟩) ?_ ?_
        rotate_left
        ·intro w'
         go_simp
         with_reducible rfl
        rotate_left
        ·simp only [Act.put,Q2,Q0,Q1,i64_w,i32_w]
         rfl
        refine pure_ (i:=9) (N:=some 158) (v:=?_) (a':=?_) #[T,T,T,T,T,T,T,T,T,T,F,F,F,F,F,F,F,F,F,F,F,F,F,F,F,F,F,F,F,F,F,F,F,F,F] rfl rfl (any_of HT_.out (by kernel_rfl)) (fun _ _ _ h => h) (Or.inl ⟨by rfl,?_⟩) ?_ ?_
        rotate_left
        ·intro w'
         go_simp
         with_reducible rfl
        rotate_left
        ·simp only [Act.put,Q2,Q0,Q1,i64_w,i32_w]
         rfl
        refine pure_ (i:=10) (N:=some 159) (v:=undef) (a':=?_) #[T,T,T,T,T,T,T,T,T,T,T,F,F,F,F,F,F,F,F,F,F,F,F,F,F,F,F,F,F,F,F,F,F,F,F] rfl rfl (any_of HT_.out (by kernel_rfl)) (fun _ _ _ h => h) (Or.inr ⟨by rfl,rfl⟩) ?_ ?_
        rotate_left
        ·simp only [Act.put,Q2,Q0,Q1,i64_w,i32_w]
         rfl
        refine pure_ (i:=11) (N:=some 160) (v:=undef) (a':=?_) #[T,T,T,T,T,T,T,T,T,T,T,T,F,F,F,F,F,F,F,F,F,F,F,F,F,F,F,F,F,F,F,F,F,F,F] rfl rfl (any_of HT_.out (by kernel_rfl)) (fun _ _ _ h => h) (Or.inr ⟨by rfl,rfl⟩) ?_ ?_
        rotate_left
        ·simp only [Act.put,Q2,Q0,Q1,i64_w,i32_w]
         rfl
        refine pure_ (i:=12) (N:=some 161) (v:=undef) (a':=?_) #[T,T,T,T,T,T,T,T,T,T,T,T,T,F,F,F,F,F,F,F,F,F,F,F,F,F,F,F,F,F,F,F,F,F,F] rfl rfl (any_of HT_.out (by kernel_rfl)) (fun _ _ _ h => h) (Or.inr ⟨by rfl,rfl⟩) ?_ ?_
        rotate_left
        ·simp only [Act.put,Q2,Q0,Q1,i64_w,i32_w]
         rfl
        refine pure_ (i:=13) (N:=some 162) (v:=undef) (a':=?_) #[T,T,T,T,T,T,T,T,T,T,T,T,T,T,F,F,F,F,F,F,F,F,F,F,F,F,F,F,F,F,F,F,F,F,F] rfl rfl (any_of HT_.out (by kernel_rfl)) (fun _ _ _ h => h) (Or.inr ⟨by rfl,rfl⟩) ?_ ?_
        rotate_left
        ·simp only [Act.put,Q2,Q0,Q1,i64_w,i32_w]
         rfl
        refine pure_ (i:=14) (N:=some 163) (v:=undef) (a':=?_) #[T,T,T,T,T,T,T,T,T,T,T,T,T,T,T,F,F,F,F,F,F,F,F,F,F,F,F,F,F,F,F,F,F,F,F] rfl rfl (any_of HT_.out (by kernel_rfl)) (fun _ _ _ h => h) (Or.inr ⟨by rfl,rfl⟩) ?_ ?_
        rotate_left
        ·simp only [Act.put,Q2,Q0,Q1,i64_w,i32_w]
         rfl
        refine pure_ (i:=15) (N:=some 164) (v:=undef) (a':=?_) #[T,T,T,T,T,T,T,T,T,T,T,T,T,T,T,T,F,F,F,F,F,F,F,F,F,F,F,F,F,F,F,F,F,F,F] rfl rfl (any_of HT_.out (by kernel_rfl)) (fun _ _ _ h => h) (Or.inr ⟨by rfl,rfl⟩) ?_ ?_
        rotate_left
        ·simp only [Act.put,Q2,Q0,Q1,i64_w,i32_w]
         rfl
        refine pure_ (i:=16) (N:=some 165) (v:=undef) (a':=?_) #[T,T,T,T,T,T,T,T,T,T,T,T,T,T,T,T,T,F,F,F,F,F,F,F,F,F,F,F,F,F,F,F,F,F,F] rfl rfl (any_of HT_.out (by kernel_rfl)) (fun _ _ _ h => h) (Or.inr ⟨by rfl,rfl⟩) ?_ ?_
        rotate_left
        ·simp only [Act.put,Q2,Q0,Q1,i64_w,i32_w]
         rfl
        refine pure_ (i:=17) (N:=some 166) (v:=undef) (a':=?_) #[T,T,T,T,T,T,T,T,T,T,T,T,T,T,T,T,T,T,F,F,F,F,F,F,F,F,F,F,F,F,F,F,F,F,F] rfl rfl (any_of HT_.out (by kernel_rfl)) (fun _ _ _ h => h) (Or.inr ⟨by rfl,rfl⟩) ?_ ?_
        rotate_left
        ·simp only [Act.put,Q2,Q0,Q1,i64_w,i32_w]
         rfl
        refine pure_ (i:=18) (N:=some 167) (v:=undef) (a':=?_) #[T,T,T,T,T,T,T,T,T,T,T,T,T,T,T,T,T,T,T,F,F,F,F,F,F,F,F,F,F,F,F,F,F,F,F] rfl rfl (any_of HT_.out (by kernel_rfl)) (fun _ _ _ h => h) (Or.inr ⟨by rfl,rfl⟩) ?_ ?_
        rotate_left
        ·simp only [Act.put,Q2,Q0,Q1,i64_w,i32_w]
         rfl
        refine pure_ (i:=19) (N:=some 168) (v:=?_) (a':=?_) #[T,T,T,T,T,T,T,T,T,T,T,T,T,T,T,T,T,T,T,T,F,F,F,F,F,F,F,F,F,F,F,F,F,F,F] rfl rfl (any_of HT_.out (by kernel_rfl)) (fun _ _ _ h => h) (Or.inl ⟨by rfl,?_⟩) ?_ ?_
        rotate_left
        ·intro w'
         go_simp
         with_reducible rfl
        rotate_left
        ·simp only [Act.put,Q2,Q0,Q1,i64_w,i32_w]
         rfl
        refine pure_ (i:=20) (N:=some 169) (v:=?_) (a':=?_) #[T,T,T,T,T,T,T,T,T,T,T,T,T,T,T,T,T,T,T,T,T,F,F,F,F,F,F,F,F,F,F,F,F,F,F] rfl rfl (any_of HT_.out (by kernel_rfl)) (fun _ _ _ h => h) (Or.inl ⟨by rfl,?_⟩) ?_ ?_
        rotate_left
        ·intro w'
         go_simp
         with_reducible rfl
        rotate_left
        ·simp only [Act.put,Q2,Q0,Q1,i64_w,i32_w]
         rfl
        refine pure_ (i:=21) (N:=some 170) (v:=undef) (a':=?_) #[T,T,T,T,T,T,T,T,T,T,T,T,T,T,T,T,T,T,T,T,T,T,F,F,F,F,F,F,F,F,F,F,F,F,F] rfl rfl (any_of HT_.out (by kernel_rfl)) (fun _ _ _ h => h) (Or.inr ⟨by rfl,rfl⟩) ?_ ?_
        rotate_left
        ·simp only [Act.put,Q2,Q0,Q1,i64_w,i32_w]
         rfl
        refine pure_ (i:=22) (N:=some 171) (v:=undef) (a':=?_) #[T,T,T,T,T,T,T,T,T,T,T,T,T,T,T,T,T,T,T,T,T,T,T,F,F,F,F,F,F,F,F,F,F,F,F] rfl rfl (any_of HT_.out (by kernel_rfl)) (fun _ _ _ h => h) (Or.inr ⟨by rfl,rfl⟩) ?_ ?_
        rotate_left
        ·simp only [Act.put,Q2,Q0,Q1,i64_w,i32_w]
         rfl
        refine pure_ (i:=23) (N:=some 172) (v:=undef) (a':=?_) #[T,T,T,T,T,T,T,T,T,T,T,T,T,T,T,T,T,T,T,T,T,T,T,T,F,F,F,F,F,F,F,F,F,F,F] rfl rfl (any_of HT_.out (by kernel_rfl)) (fun _ _ _ h => h) (Or.inr ⟨by rfl,rfl⟩) ?_ ?_
        rotate_left
        ·simp only [Act.put,Q2,Q0,Q1,i64_w,i32_w]
         rfl
        refine pure_ (i:=24) (N:=some 173) (v:=undef) (a':=?_) #[T,T,T,T,T,T,T,T,T,T,T,T,T,T,T,T,T,T,T,T,T,T,T,T,T,F,F,F,F,F,F,F,F,F,F] rfl rfl (any_of HT_.out (by kernel_rfl)) (fun _ _ _ h => h) (Or.inr ⟨by rfl,rfl⟩) ?_ ?_
        rotate_left
        ·simp only [Act.put,Q2,Q0,Q1,i64_w,i32_w]
         rfl
        refine pure_ (i:=25) (N:=some 174) (v:=undef) (a':=?_) #[T,T,T,T,T,T,T,T,T,T,T,T,T,T,T,T,T,T,T,T,T,T,T,T,T,T,F,F,F,F,F,F,F,F,F] rfl rfl (any_of HT_.out (by kernel_rfl)) (fun _ _ _ h => h) (Or.inr ⟨by rfl,rfl⟩) ?_ ?_
        rotate_left
        ·simp only [Act.put,Q2,Q0,Q1,i64_w,i32_w]
         rfl
        refine pure_ (i:=26) (N:=some 175) (v:=undef) (a':=?_) #[T,T,T,T,T,T,T,T,T,T,T,T,T,T,T,T,T,T,T,T,T,T,T,T,T,T,T,F,F,F,F,F,F,F,F] rfl rfl (any_of HT_.out (by kernel_rfl)) (fun _ _ _ h => h) (Or.inr ⟨by rfl,rfl⟩) ?_ ?_
        rotate_left
        ·simp only [Act.put,Q2,Q0,Q1,i64_w,i32_w]
         rfl
        refine pure_ (i:=27) (N:=some 176) (v:=undef) (a':=?_) #[T,T,T,T,T,T,T,T,T,T,T,T,T,T,T,T,T,T,T,T,T,T,T,T,T,T,T,T,F,F,F,F,F,F,F] rfl rfl (any_of HT_.out (by kernel_rfl)) (fun _ _ _ h => h) (Or.inr ⟨by rfl,rfl⟩) ?_ ?_
        rotate_left
        ·simp only [Act.put,Q2,Q0,Q1,i64_w,i32_w]
         rfl
        refine pure_ (i:=28) (N:=some 177) (v:=undef) (a':=?_) #[T,T,T,T,T,T,T,T,T,T,T,T,T,T,T,T,T,T,T,T,T,T,T,T,T,T,T,T,T,F,F,F,F,F,F] rfl rfl (any_of HT_.out (by kernel_rfl)) (fun _ _ _ h => h) (Or.inr ⟨by rfl,rfl⟩) ?_ ?_
        rotate_left
        ·simp only [Act.put,Q2,Q0,Q1,i64_w,i32_w]
         rfl
        refine pure_ (i:=29) (N:=some 178) (v:=undef) (a':=?_) #[T,T,T,T,T,T,T,T,T,T,T,T,T,T,T,T,T,T,T,T,T,T,T,T,T,T,T,T,T,T,F,F,F,F,F] rfl rfl (any_of HT_.out (by kernel_rfl)) (fun _ _ _ h => h) (Or.inr ⟨by rfl,rfl⟩) ?_ ?_
        rotate_left
        ·simp only [Act.put,Q2,Q0,Q1,i64_w,i32_w]
         rfl
        refine pure_ (i:=30) (N:=some 179) (v:=?_) (a':=?_) #[T,T,T,T,T,T,T,T,T,T,T,T,T,T,T,T,T,T,T,T,T,T,T,T,T,T,T,T,T,T,T,F,F,F,F] rfl rfl (any_of HT_.out (by kernel_rfl)) (fun _ _ _ h => h) (Or.inl ⟨by rfl,?_⟩) ?_ ?_
        rotate_left
        ·intro w'
         go_simp
         with_reducible rfl
        rotate_left
        ·simp only [Act.put,Q2,Q0,Q1,i64_w,i32_w]
         rfl
        refine pure_ (i:=31) (N:=some 180) (v:=?_) (a':=?_) #[T,T,T,T,T,T,T,T,T,T,T,T,T,T,T,T,T,T,T,T,T,T,T,T,T,T,T,T,T,T,T,T,F,F,F] rfl rfl (any_of HT_.out (by kernel_rfl)) (fun _ _ _ h => h) (Or.inl ⟨by rfl,?_⟩) ?_ ?_
        rotate_left
        ·intro w'
         go_simp
         with_reducible rfl
        rotate_left
        ·simp only [Act.put,Q2,Q0,Q1,i64_w,i32_w]
         rfl
        refine pure_ (i:=32) (N:=some 181) (v:=undef) (a':=?_) #[T,T,T,T,T,T,T,T,T,T,T,T,T,T,T,T,T,T,T,T,T,T,T,T,T,T,T,T,T,T,T,T,T,F,F] rfl rfl (any_of HT_.out (by kernel_rfl)) (fun _ _ _ h => h) (Or.inr ⟨by rfl,rfl⟩) ?_ ?_
        rotate_left
        ·simp only [Act.put,Q2,Q0,Q1,i64_w,i32_w]
         rfl
        refine pure_ (i:=33) (N:=some 182) (v:=?_) (a':=?_) #[T,T,T,T,T,T,T,T,T,T,T,T,T,T,T,T,T,T,T,T,T,T,T,T,T,T,T,T,T,T,T,T,T,T,F] rfl rfl (any_of HT_.out (by kernel_rfl)) (fun _ _ _ h => h) (Or.inl ⟨by rfl,?_⟩) ?_ ?_
        rotate_left
        ·intro w'
         go_simp
         with_reducible rfl
        rotate_left
        ·simp only [Act.put,Q2,Q0,Q1,i64_w,i32_w]
         rfl
        refine pure_ (i:=34) (N:=some 10) (v:=?_) (a':=?_) #[T,T,T,T,T,T,T,T,T,T,T,T,T,T,T,T,T,T,T,T,T,T,T,T,T,T,T,T,T,T,T,T,T,T,T] rfl rfl (any_of HT_.out (by kernel_rfl)) (fun _ _ _ h => h) (Or.inl ⟨by rfl,?_⟩) ?_ ?_
        rotate_left
        ·intro w'
         go_simp
         with_reducible rfl
        rotate_left
        ·simp only [Act.put,Q2,Q0,Q1,i64_w,i32_w]
         rfl
        refine done_ (done_of HT_.out (by kernel_rfl)) ?_
        try go_wp2
        go_ret
        exact ⟨by first|rfl|(simp [errW_none,errW_some] <;> rfl)|(simp [*,errW_none,errW_some] <;> rfl),by repeat (first|(with_reducible first|exact HB.out|apply below_alloc|apply D7|apply below_drew1|refine D4 ?_ GE271.out|refine D4 ?_ GE272.out|refine D4 ?_ GE281.out|refine D4 ?_ GE285.out|refine D4 ?_ GE289.out|refine D4 ?_ GE293.out)|exact HB.out)⟩

/-- THE ONE PURE STATEMENT of awardingbodylaw41_SignatureExact. -/
def awardingbodylaw41_SignatureExact.Pure : Prop:=∀ (a0 : Int) (a1 : Int) (a2 : Int) (a3_0 : Int) (a3_1 : Int) (a3_2 : Int) (a3_3 : Int) (a4_0 : Int) (a4_1 : Int),(Lit.int .i64 a0).wf = true → (Lit.int .i64 a1).wf = true → (Lit.int .i64 a2).wf = true → (Lit.int .u32 a3_0).wf = true → (Lit.int .u32 a3_1).wf = true → (Lit.int .u32 a3_2).wf = true → (Lit.int .u32 a3_3).wf = true → (Lit.int .i64 a4_0).wf = true → (Lit.int .i64 a4_1).wf = true → ∃ k,awardingbodylaw41_SignatureExact.f k a0 a1 a2 a3_0 a3_1 a3_2 a3_3 a4_0 a4_1 = some true
theorem awardingbodylaw41_SignatureExact.walk (P : awardingbodylaw41_SignatureExact.Pure) (a0 : Int) (a1 : Int) (a2 : Int) (a3_0 : Int) (a3_1 : Int) (a3_2 : Int) (a3_3 : Int) (a4_0 : Int) (a4_1 : Int) (w : World) (w0 : (Lit.int .i64 a0).wf = true) (w1 : (Lit.int .i64 a1).wf = true) (w2 : (Lit.int .i64 a2).wf = true) (w3_0 : (Lit.int .u32 a3_0).wf = true) (w3_1 : (Lit.int .u32 a3_1).wf = true) (w3_2 : (Lit.int .u32 a3_2).wf = true) (w3_3 : (Lit.int .u32 a3_3).wf = true) (w4_0 : (Lit.int .i64 a4_0).wf = true) (w4_1 : (Lit.int .i64 a4_1).wf = true) :
  Calls Try.prog 3 #[.int .i64 a0,.int .i64 a1,.int .i64 a2,.agg #[.int .u32 a3_0,.int .u32 a3_1,.int .u32 a3_2,.int .u32 a3_3],.agg #[.int .i64 a4_0,.int .i64 a4_1]] w fun e w' => e = .returned (.bool true) ∧ Below w.heap.size w w':=by
 obtain ⟨k,h⟩:=P a0 a1 a2 a3_0 a3_1 a3_2 a3_3 a4_0 a4_1 w0 w1 w2 w3_0 w3_1 w3_2 w3_3 w4_0 w4_1
 refine (awardingbodylaw41_SignatureExact.calls k a0 a1 a2 a3_0 a3_1 a3_2 a3_3 a4_0 a4_1 true w h).mono ?_
 rintro e w' ⟨rfl,hd⟩
 exact ⟨rfl,hd⟩

end Go.Proofs.Ytijmmnlhbbmhlaa.XE
