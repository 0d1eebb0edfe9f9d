/- The law DigestForms at the claim's own functions. No conditions. -/
import Derived.Test.YtepedjncjehmgaaSimDigF1
import Derived.Test.YtepedjncjehmgaaSimLk
import Derived.Test.YtepedjncjehmgaaSimB2
namespace Go.Proofs.Ytepedjncjehmgaa.Sim
set_option linter.unusedSimpArgs false
set_option linter.unusedVariables false
open Go
set_option maxRecDepth 100000

theorem sane8 : isTrue (callN env 60 8 [] []) = true := by decide +kernel
theorem sane_deep (hp : Hp) : deepE env (Call env) 8 [] hp = some (.bool true) := closed_deep e8 rfl sane8 hp
theorem runs_DigestForms : ∀ xs, OkArgs [.slice false [.i .i64] 8, .flat false [.s], .flat false [.i .u32]] xs → ∃ n hp, callN env n 5 xs [] = some (.bool true, hp) := by
  intro xs h
  obtain ⟨x0, _, rfl, h0, h⟩ := okArgs_cons h
  obtain ⟨x1, _, rfl, h1, h⟩ := okArgs_cons h
  obtain ⟨x2, _, rfl, h2, h⟩ := okArgs_cons h
  cases okArgs_nil h
  obtain ⟨l, rfl, _, _⟩ := arg_ints h0
  obtain ⟨s, rfl, _⟩ := arg_str h1
  obtain ⟨t, rfl, _⟩ := arg_int h2
  exact runs_call (c_forms e25 e9 e14 e15 e17 e5 e8 rfl sane_deep false true l s t)
end Go.Proofs.Ytepedjncjehmgaa.Sim
