/- The functions of this seat and their code. Written by a program of this project (wip/tools/simlink.py). No conditions. -/
import Derived.Test.YtepedjncjehmgaaSimC39
import Derived.Test.YtepedjncjehmgaaSimDigP1
import Derived.KernelRfl
namespace Go.Proofs.Ytepedjncjehmgaa.Sim
open Go
set_option maxRecDepth 100000
def lnk : Lnk := [(2, 3), (3, 4), (4, 5), (5, 6), (7, 8), (8, 9), (9, 10), (10, 11), (11, 12), (12, 13), (13, 14), (14, 15), (15, 16), (16, 17), (17, 18), (18, 19), (19, 20), (20, 21), (21, 22), (25, 26), (26, 27), (24, 25), (6, 7)]
def env : Env := fun i => match i with
  | 2 => some (.code c2)
  | 3 => some (.code c3)
  | 4 => some (.code c4)
  | 5 => some (.code c5)
  | 7 => some (.code c7)
  | 8 => some (.code c8)
  | 9 => some (.code c9)
  | 10 => some (.code c10)
  | 11 => some (.code c11)
  | 12 => some (.code c12)
  | 13 => some (.code c13)
  | 14 => some (.code c14)
  | 15 => some (.code c15)
  | 16 => some (.code c16)
  | 17 => some (.code c17)
  | 18 => some (.code c18)
  | 19 => some (.code c19)
  | 20 => some (.code c20)
  | 21 => some (.code c21)
  | 25 => some (.code c25)
  | 26 => some (.code c26)
  | 24 => some (.prim pIndexByte)
  | 6 => some (.prim pText)
  | _ => none
theorem e2 : env 2 = some (.code c2) := rfl
theorem e3 : env 3 = some (.code c3) := rfl
theorem e4 : env 4 = some (.code c4) := rfl
theorem e5 : env 5 = some (.code c5) := rfl
theorem e7 : env 7 = some (.code c7) := rfl
theorem e8 : env 8 = some (.code c8) := rfl
theorem e9 : env 9 = some (.code c9) := rfl
theorem e10 : env 10 = some (.code c10) := rfl
theorem e11 : env 11 = some (.code c11) := rfl
theorem e12 : env 12 = some (.code c12) := rfl
theorem e13 : env 13 = some (.code c13) := rfl
theorem e14 : env 14 = some (.code c14) := rfl
theorem e15 : env 15 = some (.code c15) := rfl
theorem e16 : env 16 = some (.code c16) := rfl
theorem e17 : env 17 = some (.code c17) := rfl
theorem e18 : env 18 = some (.code c18) := rfl
theorem e19 : env 19 = some (.code c19) := rfl
theorem e20 : env 20 = some (.code c20) := rfl
theorem e21 : env 21 = some (.code c21) := rfl
theorem e25 : env 25 = some (.code c25) := rfl
theorem e26 : env 26 = some (.code c26) := rfl
theorem e24 : env 24 = some (.prim pIndexByte) := rfl
theorem e6 : env 6 = some (.prim pText) := rfl
theorem k2 : compF Try.prog lnk { esc := [1, 3, 5, 7, 9, 11], keeps := [], deep := true } 3 = some c2 := by kernel_rfl
theorem k3 : compF Try.prog lnk { esc := [1, 3], keeps := [[1, 4, 5, 6, 7], [1, 4, 5, 6, 7, 8, 9], [1, 4, 5, 6, 7, 8, 9]], deep := true } 4 = some c3 := by kernel_rfl
theorem k4 : compF Try.prog lnk { esc := [5, 11, 13], keeps := [], deep := true } 5 = some c4 := by kernel_rfl
theorem k5 : compF Try.prog lnk { esc := [], keeps := [[0, 1, 2, 7, 8], [0, 1, 2, 7, 8, 23, 24, 25], [0, 1, 2, 7, 8, 23, 24, 25], [0, 1, 2, 7, 8], [0, 1, 2, 7, 8, 11], [0, 1, 2, 7, 8, 11], [0, 1, 2, 7, 8, 11, 12], [0, 1, 2, 7, 8, 11, 12, 13], [0, 1, 2, 7, 8, 11, 12, 13]], deep := true } 6 = some c5 := by kernel_rfl
theorem k7 : compF Try.prog lnk { esc := [2, 4], keeps := [[2, 4], [0, 2, 4, 12, 13], [0, 2, 4, 12, 13]], deep := true } 8 = some c7 := by kernel_rfl
theorem k8 : compF Try.prog lnk { esc := [1], keeps := [], deep := true } 9 = some c8 := by kernel_rfl
theorem k9 : compF Try.prog lnk { esc := [1, 2], keeps := [[2, 3, 4, 5, 6], [2, 3, 4, 5, 6, 15], [2, 3, 4, 5, 6, 15]], deep := true } 10 = some c9 := by kernel_rfl
theorem k10 : compF Try.prog lnk { esc := [], keeps := [], deep := true } 11 = some c10 := by kernel_rfl
theorem k11 : compF Try.prog lnk { esc := [2, 4], keeps := [[2, 4], [0, 2, 4, 5], [0, 2, 4, 5], [0, 2, 4, 5, 6]], deep := true } 12 = some c11 := by kernel_rfl
theorem k12 : compF Try.prog lnk { esc := [4, 5], keeps := [[4, 5], [1, 4, 5, 6], [1, 4, 5, 6]], deep := true } 13 = some c12 := by kernel_rfl
theorem k13 : compF Try.prog lnk { esc := [1, 2], keeps := [[2, 3, 4, 5, 6], [2, 3, 4, 5, 6, 7], [2, 3, 4, 5, 6, 7]], deep := true } 14 = some c13 := by kernel_rfl
theorem k14 : compF Try.prog lnk { esc := [4, 5], keeps := [[4, 5], [1, 4, 5, 6], [1, 4, 5, 6]], deep := true } 15 = some c14 := by kernel_rfl
theorem k15 : compF Try.prog lnk { esc := [4], keeps := [[0, 4, 5], [0, 4, 5, 8, 9, 10], [0, 4, 5, 8, 9, 10]], deep := true } 16 = some c15 := by kernel_rfl
theorem k16 : compF Try.prog lnk { esc := [4], keeps := [[0, 4, 5], [0, 1, 4, 5, 6], [0, 1, 4, 5, 6]], deep := true } 17 = some c16 := by kernel_rfl
theorem k17 : compF Try.prog lnk { esc := [4], keeps := [[0, 1, 4, 5], [0, 1, 4, 5, 13, 14], [0, 1, 4, 5, 13, 14]], deep := true } 18 = some c17 := by kernel_rfl
theorem k18 : compF Try.prog lnk { esc := [4], keeps := [[0, 1, 4, 5], [0, 1, 4, 5, 6], [0, 1, 4, 5, 6]], deep := true } 19 = some c18 := by kernel_rfl
theorem k19 : compF Try.prog lnk { esc := [4], keeps := [], deep := true } 20 = some c19 := by kernel_rfl
theorem k20 : compF Try.prog lnk { esc := [4], keeps := [], deep := true } 21 = some c20 := by kernel_rfl
theorem k21 : compF Try.prog lnk { esc := [1], keeps := [[3], [1, 3, 4], [1, 3, 4], [1, 3, 4], [1, 3, 4, 5], [1, 3, 4, 5]], deep := true } 22 = some c21 := by kernel_rfl
theorem k25 : compF Try.prog lnk { esc := [], keeps := [], deep := true } 26 = some c25 := by kernel_rfl
theorem k26 : compF Try.prog lnk { esc := [], keeps := [], deep := true } 27 = some c26 := by kernel_rfl
theorem fids : (lnk.all fun p => match Try.prog.funcs[p.2]? with | some fn => decide (fn.name ≠ "runtime.NumGoroutine") && fn.body.isSome | none => false) = true := by kernel_rfl
theorem linked : Linked Try.prog lnk env where
  fn := linked_fn fids
  code := by
    intro i g cf hk hE
    have hm := fid_mem hk
    simp only [lnk, List.mem_cons, Prod.mk.injEq, List.not_mem_nil, or_false] at hm
    rcases hm with ⟨rfl, rfl⟩ | ⟨rfl, rfl⟩ | ⟨rfl, rfl⟩ | ⟨rfl, rfl⟩ | ⟨rfl, rfl⟩ | ⟨rfl, rfl⟩ | ⟨rfl, rfl⟩ | ⟨rfl, rfl⟩ | ⟨rfl, rfl⟩ | ⟨rfl, rfl⟩ | ⟨rfl, rfl⟩ | ⟨rfl, rfl⟩ | ⟨rfl, rfl⟩ | ⟨rfl, rfl⟩ | ⟨rfl, rfl⟩ | ⟨rfl, rfl⟩ | ⟨rfl, rfl⟩ | ⟨rfl, rfl⟩ | ⟨rfl, rfl⟩ | ⟨rfl, rfl⟩ | ⟨rfl, rfl⟩ | ⟨rfl, rfl⟩ | ⟨rfl, rfl⟩
    · cases e2.symm.trans hE; exact ⟨_, k2⟩
    · cases e3.symm.trans hE; exact ⟨_, k3⟩
    · cases e4.symm.trans hE; exact ⟨_, k4⟩
    · cases e5.symm.trans hE; exact ⟨_, k5⟩
    · cases e7.symm.trans hE; exact ⟨_, k7⟩
    · cases e8.symm.trans hE; exact ⟨_, k8⟩
    · cases e9.symm.trans hE; exact ⟨_, k9⟩
    · cases e10.symm.trans hE; exact ⟨_, k10⟩
    · cases e11.symm.trans hE; exact ⟨_, k11⟩
    · cases e12.symm.trans hE; exact ⟨_, k12⟩
    · cases e13.symm.trans hE; exact ⟨_, k13⟩
    · cases e14.symm.trans hE; exact ⟨_, k14⟩
    · cases e15.symm.trans hE; exact ⟨_, k15⟩
    · cases e16.symm.trans hE; exact ⟨_, k16⟩
    · cases e17.symm.trans hE; exact ⟨_, k17⟩
    · cases e18.symm.trans hE; exact ⟨_, k18⟩
    · cases e19.symm.trans hE; exact ⟨_, k19⟩
    · cases e20.symm.trans hE; exact ⟨_, k20⟩
    · cases e21.symm.trans hE; exact ⟨_, k21⟩
    · cases e25.symm.trans hE; exact ⟨_, k25⟩
    · cases e26.symm.trans hE; exact ⟨_, k26⟩
    · cases hE
    · cases hE
  prim := by
    intro i g cf hk hE
    have hm := fid_mem hk
    simp only [lnk, List.mem_cons, Prod.mk.injEq, List.not_mem_nil, or_false] at hm
    rcases hm with ⟨rfl, rfl⟩ | ⟨rfl, rfl⟩ | ⟨rfl, rfl⟩ | ⟨rfl, rfl⟩ | ⟨rfl, rfl⟩ | ⟨rfl, rfl⟩ | ⟨rfl, rfl⟩ | ⟨rfl, rfl⟩ | ⟨rfl, rfl⟩ | ⟨rfl, rfl⟩ | ⟨rfl, rfl⟩ | ⟨rfl, rfl⟩ | ⟨rfl, rfl⟩ | ⟨rfl, rfl⟩ | ⟨rfl, rfl⟩ | ⟨rfl, rfl⟩ | ⟨rfl, rfl⟩ | ⟨rfl, rfl⟩ | ⟨rfl, rfl⟩ | ⟨rfl, rfl⟩ | ⟨rfl, rfl⟩ | ⟨rfl, rfl⟩ | ⟨rfl, rfl⟩
    · cases e2.symm.trans hE
    · cases e3.symm.trans hE
    · cases e4.symm.trans hE
    · cases e5.symm.trans hE
    · cases e7.symm.trans hE
    · cases e8.symm.trans hE
    · cases e9.symm.trans hE
    · cases e10.symm.trans hE
    · cases e11.symm.trans hE
    · cases e12.symm.trans hE
    · cases e13.symm.trans hE
    · cases e14.symm.trans hE
    · cases e15.symm.trans hE
    · cases e16.symm.trans hE
    · cases e17.symm.trans hE
    · cases e18.symm.trans hE
    · cases e19.symm.trans hE
    · cases e20.symm.trans hE
    · cases e21.symm.trans hE
    · cases e25.symm.trans hE
    · cases e26.symm.trans hE
    · cases e24.symm.trans hE; exact prim_indexByte _
    · cases e6.symm.trans hE; exact prim_text _
  iprim := by
    intro i g cf hk hE
    have hm := fid_mem hk
    simp only [lnk, List.mem_cons, Prod.mk.injEq, List.not_mem_nil, or_false] at hm
    rcases hm with ⟨rfl, rfl⟩ | ⟨rfl, rfl⟩ | ⟨rfl, rfl⟩ | ⟨rfl, rfl⟩ | ⟨rfl, rfl⟩ | ⟨rfl, rfl⟩ | ⟨rfl, rfl⟩ | ⟨rfl, rfl⟩ | ⟨rfl, rfl⟩ | ⟨rfl, rfl⟩ | ⟨rfl, rfl⟩ | ⟨rfl, rfl⟩ | ⟨rfl, rfl⟩ | ⟨rfl, rfl⟩ | ⟨rfl, rfl⟩ | ⟨rfl, rfl⟩ | ⟨rfl, rfl⟩ | ⟨rfl, rfl⟩ | ⟨rfl, rfl⟩ | ⟨rfl, rfl⟩ | ⟨rfl, rfl⟩ | ⟨rfl, rfl⟩ | ⟨rfl, rfl⟩
    · cases e2.symm.trans hE
    · cases e3.symm.trans hE
    · cases e4.symm.trans hE
    · cases e5.symm.trans hE
    · cases e7.symm.trans hE
    · cases e8.symm.trans hE
    · cases e9.symm.trans hE
    · cases e10.symm.trans hE
    · cases e11.symm.trans hE
    · cases e12.symm.trans hE
    · cases e13.symm.trans hE
    · cases e14.symm.trans hE
    · cases e15.symm.trans hE
    · cases e16.symm.trans hE
    · cases e17.symm.trans hE
    · cases e18.symm.trans hE
    · cases e19.symm.trans hE
    · cases e20.symm.trans hE
    · cases e21.symm.trans hE
    · cases e25.symm.trans hE
    · cases e26.symm.trans hE
    · cases e24.symm.trans hE
    · cases e6.symm.trans hE
  mixed := by kernel_rfl
end Go.Proofs.Ytepedjncjehmgaa.Sim
