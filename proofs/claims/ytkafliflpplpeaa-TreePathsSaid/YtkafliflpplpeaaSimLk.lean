/- The functions of this seat and their code. Written by a program of this project (wip/tools/simlink.py). No conditions. -/
import Derived.Test.YtkafliflpplpeaaSimC39
import Derived.Test.YtkafliflpplpeaaSimC40
import Derived.Test.YtkafliflpplpeaaProg
import Derived.KernelRfl
namespace Go.Proofs.Ytkafliflpplpeaa.Sim
open Go
set_option maxRecDepth 100000
def lnk : Lnk := [(9, 31), (12, 28), (13, 35), (14, 19), (19, 18), (20, 30), (25, 36), (26, 37), (166, 6), (168, 8), (178, 24), (231, 3), (232, 4), (233, 5), (234, 7), (235, 9), (236, 10), (237, 11), (238, 12), (239, 13), (240, 14), (241, 15), (242, 16), (243, 17), (244, 20), (245, 21), (246, 22), (247, 23), (248, 25), (249, 26), (250, 27), (251, 29), (252, 32), (253, 33), (254, 34)]
def env : Env := fun i => match i with
  | 9 => some (.code c9)
  | 12 => some (.code c12)
  | 13 => some (.code c13)
  | 14 => some (.code c14)
  | 19 => some (.code c19)
  | 20 => some (.code c20)
  | 25 => some (.code c25)
  | 26 => some (.code c26)
  | 166 => some (.code c166)
  | 168 => some (.code c168)
  | 178 => some (.code c178)
  | 231 => some (.code c231)
  | 232 => some (.code c232)
  | 233 => some (.code c233)
  | 234 => some (.code c234)
  | 235 => some (.code c235)
  | 236 => some (.code c236)
  | 237 => some (.code c237)
  | 238 => some (.code c238)
  | 239 => some (.code c239)
  | 240 => some (.code c240)
  | 241 => some (.code c241)
  | 242 => some (.code c242)
  | 243 => some (.code c243)
  | 244 => some (.code c244)
  | 245 => some (.code c245)
  | 246 => some (.code c246)
  | 247 => some (.code c247)
  | 248 => some (.code c248)
  | 249 => some (.code c249)
  | 250 => some (.code c250)
  | 251 => some (.code c251)
  | 252 => some (.code c252)
  | 253 => some (.code c253)
  | 254 => some (.code c254)
  | _ => none
theorem e9 : env 9 = some (.code c9) := rfl
theorem e12 : env 12 = some (.code c12) := rfl
theorem e13 : env 13 = some (.code c13) := rfl
theorem e14 : env 14 = some (.code c14) := rfl
theorem e19 : env 19 = some (.code c19) := rfl
theorem e20 : env 20 = some (.code c20) := rfl
theorem e25 : env 25 = some (.code c25) := rfl
theorem e26 : env 26 = some (.code c26) := rfl
theorem e166 : env 166 = some (.code c166) := rfl
theorem e168 : env 168 = some (.code c168) := rfl
theorem e178 : env 178 = some (.code c178) := rfl
theorem e231 : env 231 = some (.code c231) := rfl
theorem e232 : env 232 = some (.code c232) := rfl
theorem e233 : env 233 = some (.code c233) := rfl
theorem e234 : env 234 = some (.code c234) := rfl
theorem e235 : env 235 = some (.code c235) := rfl
theorem e236 : env 236 = some (.code c236) := rfl
theorem e237 : env 237 = some (.code c237) := rfl
theorem e238 : env 238 = some (.code c238) := rfl
theorem e239 : env 239 = some (.code c239) := rfl
theorem e240 : env 240 = some (.code c240) := rfl
theorem e241 : env 241 = some (.code c241) := rfl
theorem e242 : env 242 = some (.code c242) := rfl
theorem e243 : env 243 = some (.code c243) := rfl
theorem e244 : env 244 = some (.code c244) := rfl
theorem e245 : env 245 = some (.code c245) := rfl
theorem e246 : env 246 = some (.code c246) := rfl
theorem e247 : env 247 = some (.code c247) := rfl
theorem e248 : env 248 = some (.code c248) := rfl
theorem e249 : env 249 = some (.code c249) := rfl
theorem e250 : env 250 = some (.code c250) := rfl
theorem e251 : env 251 = some (.code c251) := rfl
theorem e252 : env 252 = some (.code c252) := rfl
theorem e253 : env 253 = some (.code c253) := rfl
theorem e254 : env 254 = some (.code c254) := rfl
theorem k9 : compF Try.prog lnk { esc := [1, 2, 1252, 1248], keeps := [[2, 3, 4, 5, 6], [2, 3, 4, 5, 6, 15], [2, 3, 4, 5, 6, 15]], deep := true } 31 = some c9 := by kernel_rfl
theorem k12 : compF Try.prog lnk { esc := [4, 5, 1252, 1248], keeps := [[4, 5], [1, 4, 5, 6], [1, 4, 5, 6]], deep := true } 28 = some c12 := by kernel_rfl
theorem k13 : compF Try.prog lnk { esc := [1, 2, 1252, 1248], keeps := [[2, 3, 4, 5, 6], [2, 3, 4, 5, 6, 7], [2, 3, 4, 5, 6, 7]], deep := true } 35 = some c13 := by kernel_rfl
theorem k14 : compF Try.prog lnk { esc := [4, 5, 1252, 1248], keeps := [[4, 5], [1, 4, 5, 6], [1, 4, 5, 6]], deep := true } 19 = some c14 := by kernel_rfl
theorem k19 : compF Try.prog lnk { esc := [4, 1252, 1248], keeps := [], deep := true } 18 = some c19 := by kernel_rfl
theorem k20 : compF Try.prog lnk { esc := [4, 1252, 1248], keeps := [], deep := true } 30 = some c20 := by kernel_rfl
theorem k25 : compF Try.prog lnk { esc := [1252, 1248], keeps := [], deep := true } 36 = some c25 := by kernel_rfl
theorem k26 : compF Try.prog lnk { esc := [1252, 1248], keeps := [], deep := true } 37 = some c26 := by kernel_rfl
theorem k166 : compF Try.prog lnk { esc := [1252, 1248], keeps := [], deep := true } 6 = some c166 := by kernel_rfl
theorem k168 : compF Try.prog lnk { esc := [1252, 1248], keeps := [], deep := false } 8 = some c168 := by kernel_rfl
theorem k178 : compF Try.prog lnk { esc := [1252, 1248], keeps := [], deep := false } 24 = some c178 := by kernel_rfl
theorem k231 : compF Try.prog lnk { esc := [13, 15, 16, 18, 1252, 1248], keeps := [], deep := true } 3 = some c231 := by kernel_rfl
theorem k232 : compF Try.prog lnk { esc := [1252, 1248], keeps := [[5, 6, 7, 8], [5, 6, 7, 8, 9], [5, 6, 7, 8, 9]], deep := true } 4 = some c232 := by kernel_rfl
theorem k233 : compF Try.prog lnk { esc := [11, 12, 15, 16, 1252, 1248], keeps := [], deep := true } 5 = some c233 := by kernel_rfl
theorem k234 : compF Try.prog lnk { esc := [1, 2, 3, 11, 13, 1252, 1248], keeps := [], deep := true } 7 = some c234 := by kernel_rfl
theorem k235 : compF Try.prog lnk { esc := [1252, 1248], keeps := [[5], [0, 1, 5, 6], [0, 1, 5, 6]], deep := false } 9 = some c235 := by kernel_rfl
theorem k236 : compF Try.prog lnk { esc := [1252, 1248], keeps := [[0, 1]], deep := true } 10 = some c236 := by kernel_rfl
theorem k237 : compF Try.prog lnk { esc := [4, 8, 10, 1252, 1248], keeps := [[1, 2, 3, 4, 8]], deep := true } 11 = some c237 := by kernel_rfl
theorem k238 : compF Try.prog lnk { esc := [2, 1252, 1248], keeps := [], deep := true } 12 = some c238 := by kernel_rfl
theorem k239 : compF Try.prog lnk { esc := [2, 1252, 1248], keeps := [[0, 2]], deep := true } 13 = some c239 := by kernel_rfl
theorem k240 : compF Try.prog lnk { esc := [4, 8, 10, 1252, 1248], keeps := [], deep := true } 14 = some c240 := by kernel_rfl
theorem k241 : compF Try.prog lnk { esc := [2, 1252, 1248], keeps := [], deep := true } 15 = some c241 := by kernel_rfl
theorem k242 : compF Try.prog lnk { esc := [2, 1252, 1248], keeps := [[0, 2]], deep := true } 16 = some c242 := by kernel_rfl
theorem k243 : compF Try.prog lnk { esc := [1252, 1248], keeps := [[3], [0, 3], [0, 3]], deep := true } 17 = some c243 := by kernel_rfl
theorem k244 : compF Try.prog lnk { esc := [1252, 1248], keeps := [[0, 1]], deep := true } 20 = some c244 := by kernel_rfl
theorem k245 : compF Try.prog lnk { esc := [7, 8, 11, 12, 1252, 1248], keeps := [], deep := true } 21 = some c245 := by kernel_rfl
theorem k246 : compF Try.prog lnk { esc := [7, 8, 11, 12, 1252, 1248], keeps := [], deep := true } 22 = some c246 := by kernel_rfl
theorem k247 : compF Try.prog lnk { esc := [1252, 1248], keeps := [[], [0, 1, 12, 13], [0, 1, 12, 13]], deep := true } 23 = some c247 := by kernel_rfl
theorem k248 : compF Try.prog lnk { esc := [1252, 1248], keeps := [], deep := true } 25 = some c248 := by kernel_rfl
theorem k249 : compF Try.prog lnk { esc := [4, 8, 1252, 1248], keeps := [], deep := true } 26 = some c249 := by kernel_rfl
theorem k250 : compF Try.prog lnk { esc := [4, 8, 1252, 1248], keeps := [], deep := true } 27 = some c250 := by kernel_rfl
theorem k251 : compF Try.prog lnk { esc := [1252, 1248], keeps := [[3], [0, 3], [0, 3]], deep := true } 29 = some c251 := by kernel_rfl
theorem k252 : compF Try.prog lnk { esc := [1252, 1248], keeps := [[6]], deep := true } 32 = some c252 := by kernel_rfl
theorem k253 : compF Try.prog lnk { esc := [7, 10, 11, 1252, 1248], keeps := [[0, 1, 3, 4, 7, 10, 11]], deep := true } 33 = some c253 := by kernel_rfl
theorem k254 : compF Try.prog lnk { esc := [7, 10, 11, 1252, 1248], keeps := [], deep := true } 34 = some c254 := by kernel_rfl
theorem fids : (lnk.all fun p => match Try.prog.funcs[p.2]? with | some fn => decide (fn.name ≠ "runtime.NumGoroutine") && fn.body.isSome | none => false) = true := by kernel_rfl
theorem linked : Linked Try.prog lnk env where
  fn := linked_fn fids
  code := by
    intro i g cf hk hE
    have hm := fid_mem hk
    simp only [lnk, List.mem_cons, Prod.mk.injEq, List.not_mem_nil, or_false] at hm
    rcases hm with ⟨rfl, rfl⟩ | ⟨rfl, rfl⟩ | ⟨rfl, rfl⟩ | ⟨rfl, rfl⟩ | ⟨rfl, rfl⟩ | ⟨rfl, rfl⟩ | ⟨rfl, rfl⟩ | ⟨rfl, rfl⟩ | ⟨rfl, rfl⟩ | ⟨rfl, rfl⟩ | ⟨rfl, rfl⟩ | ⟨rfl, rfl⟩ | ⟨rfl, rfl⟩ | ⟨rfl, rfl⟩ | ⟨rfl, rfl⟩ | ⟨rfl, rfl⟩ | ⟨rfl, rfl⟩ | ⟨rfl, rfl⟩ | ⟨rfl, rfl⟩ | ⟨rfl, rfl⟩ | ⟨rfl, rfl⟩ | ⟨rfl, rfl⟩ | ⟨rfl, rfl⟩ | ⟨rfl, rfl⟩ | ⟨rfl, rfl⟩ | ⟨rfl, rfl⟩ | ⟨rfl, rfl⟩ | ⟨rfl, rfl⟩ | ⟨rfl, rfl⟩ | ⟨rfl, rfl⟩ | ⟨rfl, rfl⟩ | ⟨rfl, rfl⟩ | ⟨rfl, rfl⟩ | ⟨rfl, rfl⟩ | ⟨rfl, rfl⟩
    · cases e9.symm.trans hE; exact ⟨_, k9⟩
    · cases e12.symm.trans hE; exact ⟨_, k12⟩
    · cases e13.symm.trans hE; exact ⟨_, k13⟩
    · cases e14.symm.trans hE; exact ⟨_, k14⟩
    · cases e19.symm.trans hE; exact ⟨_, k19⟩
    · cases e20.symm.trans hE; exact ⟨_, k20⟩
    · cases e25.symm.trans hE; exact ⟨_, k25⟩
    · cases e26.symm.trans hE; exact ⟨_, k26⟩
    · cases e166.symm.trans hE; exact ⟨_, k166⟩
    · cases e168.symm.trans hE; exact ⟨_, k168⟩
    · cases e178.symm.trans hE; exact ⟨_, k178⟩
    · cases e231.symm.trans hE; exact ⟨_, k231⟩
    · cases e232.symm.trans hE; exact ⟨_, k232⟩
    · cases e233.symm.trans hE; exact ⟨_, k233⟩
    · cases e234.symm.trans hE; exact ⟨_, k234⟩
    · cases e235.symm.trans hE; exact ⟨_, k235⟩
    · cases e236.symm.trans hE; exact ⟨_, k236⟩
    · cases e237.symm.trans hE; exact ⟨_, k237⟩
    · cases e238.symm.trans hE; exact ⟨_, k238⟩
    · cases e239.symm.trans hE; exact ⟨_, k239⟩
    · cases e240.symm.trans hE; exact ⟨_, k240⟩
    · cases e241.symm.trans hE; exact ⟨_, k241⟩
    · cases e242.symm.trans hE; exact ⟨_, k242⟩
    · cases e243.symm.trans hE; exact ⟨_, k243⟩
    · cases e244.symm.trans hE; exact ⟨_, k244⟩
    · cases e245.symm.trans hE; exact ⟨_, k245⟩
    · cases e246.symm.trans hE; exact ⟨_, k246⟩
    · cases e247.symm.trans hE; exact ⟨_, k247⟩
    · cases e248.symm.trans hE; exact ⟨_, k248⟩
    · cases e249.symm.trans hE; exact ⟨_, k249⟩
    · cases e250.symm.trans hE; exact ⟨_, k250⟩
    · cases e251.symm.trans hE; exact ⟨_, k251⟩
    · cases e252.symm.trans hE; exact ⟨_, k252⟩
    · cases e253.symm.trans hE; exact ⟨_, k253⟩
    · cases e254.symm.trans hE; exact ⟨_, k254⟩
  prim := by
    intro i g cf hk hE
    have hm := fid_mem hk
    simp only [lnk, List.mem_cons, Prod.mk.injEq, List.not_mem_nil, or_false] at hm
    rcases hm with ⟨rfl, rfl⟩ | ⟨rfl, rfl⟩ | ⟨rfl, rfl⟩ | ⟨rfl, rfl⟩ | ⟨rfl, rfl⟩ | ⟨rfl, rfl⟩ | ⟨rfl, rfl⟩ | ⟨rfl, rfl⟩ | ⟨rfl, rfl⟩ | ⟨rfl, rfl⟩ | ⟨rfl, rfl⟩ | ⟨rfl, rfl⟩ | ⟨rfl, rfl⟩ | ⟨rfl, rfl⟩ | ⟨rfl, rfl⟩ | ⟨rfl, rfl⟩ | ⟨rfl, rfl⟩ | ⟨rfl, rfl⟩ | ⟨rfl, rfl⟩ | ⟨rfl, rfl⟩ | ⟨rfl, rfl⟩ | ⟨rfl, rfl⟩ | ⟨rfl, rfl⟩ | ⟨rfl, rfl⟩ | ⟨rfl, rfl⟩ | ⟨rfl, rfl⟩ | ⟨rfl, rfl⟩ | ⟨rfl, rfl⟩ | ⟨rfl, rfl⟩ | ⟨rfl, rfl⟩ | ⟨rfl, rfl⟩ | ⟨rfl, rfl⟩ | ⟨rfl, rfl⟩ | ⟨rfl, rfl⟩ | ⟨rfl, rfl⟩
    · cases e9.symm.trans hE
    · cases e12.symm.trans hE
    · cases e13.symm.trans hE
    · cases e14.symm.trans hE
    · cases e19.symm.trans hE
    · cases e20.symm.trans hE
    · cases e25.symm.trans hE
    · cases e26.symm.trans hE
    · cases e166.symm.trans hE
    · cases e168.symm.trans hE
    · cases e178.symm.trans hE
    · cases e231.symm.trans hE
    · cases e232.symm.trans hE
    · cases e233.symm.trans hE
    · cases e234.symm.trans hE
    · cases e235.symm.trans hE
    · cases e236.symm.trans hE
    · cases e237.symm.trans hE
    · cases e238.symm.trans hE
    · cases e239.symm.trans hE
    · cases e240.symm.trans hE
    · cases e241.symm.trans hE
    · cases e242.symm.trans hE
    · cases e243.symm.trans hE
    · cases e244.symm.trans hE
    · cases e245.symm.trans hE
    · cases e246.symm.trans hE
    · cases e247.symm.trans hE
    · cases e248.symm.trans hE
    · cases e249.symm.trans hE
    · cases e250.symm.trans hE
    · cases e251.symm.trans hE
    · cases e252.symm.trans hE
    · cases e253.symm.trans hE
    · cases e254.symm.trans hE
  iprim := by
    intro i g cf hk hE
    have hm := fid_mem hk
    simp only [lnk, List.mem_cons, Prod.mk.injEq, List.not_mem_nil, or_false] at hm
    rcases hm with ⟨rfl, rfl⟩ | ⟨rfl, rfl⟩ | ⟨rfl, rfl⟩ | ⟨rfl, rfl⟩ | ⟨rfl, rfl⟩ | ⟨rfl, rfl⟩ | ⟨rfl, rfl⟩ | ⟨rfl, rfl⟩ | ⟨rfl, rfl⟩ | ⟨rfl, rfl⟩ | ⟨rfl, rfl⟩ | ⟨rfl, rfl⟩ | ⟨rfl, rfl⟩ | ⟨rfl, rfl⟩ | ⟨rfl, rfl⟩ | ⟨rfl, rfl⟩ | ⟨rfl, rfl⟩ | ⟨rfl, rfl⟩ | ⟨rfl, rfl⟩ | ⟨rfl, rfl⟩ | ⟨rfl, rfl⟩ | ⟨rfl, rfl⟩ | ⟨rfl, rfl⟩ | ⟨rfl, rfl⟩ | ⟨rfl, rfl⟩ | ⟨rfl, rfl⟩ | ⟨rfl, rfl⟩ | ⟨rfl, rfl⟩ | ⟨rfl, rfl⟩ | ⟨rfl, rfl⟩ | ⟨rfl, rfl⟩ | ⟨rfl, rfl⟩ | ⟨rfl, rfl⟩ | ⟨rfl, rfl⟩ | ⟨rfl, rfl⟩
    · cases e9.symm.trans hE
    · cases e12.symm.trans hE
    · cases e13.symm.trans hE
    · cases e14.symm.trans hE
    · cases e19.symm.trans hE
    · cases e20.symm.trans hE
    · cases e25.symm.trans hE
    · cases e26.symm.trans hE
    · cases e166.symm.trans hE
    · cases e168.symm.trans hE
    · cases e178.symm.trans hE
    · cases e231.symm.trans hE
    · cases e232.symm.trans hE
    · cases e233.symm.trans hE
    · cases e234.symm.trans hE
    · cases e235.symm.trans hE
    · cases e236.symm.trans hE
    · cases e237.symm.trans hE
    · cases e238.symm.trans hE
    · cases e239.symm.trans hE
    · cases e240.symm.trans hE
    · cases e241.symm.trans hE
    · cases e242.symm.trans hE
    · cases e243.symm.trans hE
    · cases e244.symm.trans hE
    · cases e245.symm.trans hE
    · cases e246.symm.trans hE
    · cases e247.symm.trans hE
    · cases e248.symm.trans hE
    · cases e249.symm.trans hE
    · cases e250.symm.trans hE
    · cases e251.symm.trans hE
    · cases e252.symm.trans hE
    · cases e253.symm.trans hE
    · cases e254.symm.trans hE
  mixed := by kernel_rfl
  low := linked_low (by decide)
  high := by
    intro i g hi
    have h : ∀ j, ownOff ≤ j → env j = none := by
      intro j hj
      unfold ownOff at hj
      unfold env
      split <;> first | omega | rfl
    rw [h i hi]
    exact fun hh => by cases hh
end Go.Proofs.Ytkafliflpplpeaa.Sim
