/- The laws of chapter 40 at the claim's own functions. No conditions. -/
import Derived.Test.YtkafliflpplpeaaSimTr2
import Derived.Test.YtkafliflpplpeaaSimLk
import Derived.Test.YtkafliflpplpeaaSimB3
namespace Go.Proofs.Ytkafliflpplpeaa.Sim
set_option linter.unusedSimpArgs false
set_option linter.unusedVariables false
open Go
set_option maxRecDepth 100000

theorem sane_env : isTrue (callN (swE env) 60 234 [] []) = true := by decide +kernel
theorem hasW : HasW env := ⟨e9, e12, e13, e14, e19, e20, e25, e26⟩
theorem hasT : HasT env := { hasW with e238 := e238, e239 := e239, e241 := e241, e242 := e242, e243 := e243, e251 := e251, e248 := e248, n248 := rfl, e252 := e252, n252 := rfl }
theorem hasL : HasL env := { hasT with e166 := e166, e168 := e168, e178 := e178, e234 := e234, e235 := e235, e236 := e236, e237 := e237, e240 := e240, e249 := e249, e250 := e250, sane := sane234 hasW e234 sane_env }

theorem nat_u8 {n : Int} (h : (Lit.int .u8 n).wf = true) : ∃ m : Nat, n = m ∧ m < 256 := by
  simp [Lit.wf, IntKind.min, IntKind.max, IntKind.signed, IntKind.bits] at h
  exact ⟨n.toNat, by omega, by omega⟩

theorem runs_TreePaths : ∀ xs, OkArgs [.slice false [.i .i64] 8, .flat false [.i .u8], .flat false [.i .u8]] xs → ∃ n hp, callN env n 231 xs [] = some (.bool true, hp) := by
  intro xs h
  obtain ⟨x0, _, rfl, h0, h⟩ := okArgs_cons h
  obtain ⟨x1, _, rfl, h1, h⟩ := okArgs_cons h
  obtain ⟨x2, _, rfl, h2, h⟩ := okArgs_cons h
  cases okArgs_nil h
  obtain ⟨l, rfl, _, _⟩ := arg_ints h0
  obtain ⟨n, rfl, hn⟩ := arg_int h1
  obtain ⟨i, rfl, hi⟩ := arg_int h2
  obtain ⟨n, rfl, hn2⟩ := nat_u8 hn
  obtain ⟨i, rfl, hi2⟩ := nat_u8 hi
  exact runs_call (c_paths hasL e231 false true l n i hn2 hi2)
end Go.Proofs.Ytkafliflpplpeaa.Sim
