/- The laws of chapter 39 at the claim's own functions. No conditions. -/
import Derived.Test.YtepedjncjehmgaaSimDigF1
import Derived.Test.YtepedjncjehmgaaSimLk
import Derived.Test.YtepedjncjehmgaaSimB3
namespace Go.Proofs.Ytepedjncjehmgaa.Sim
set_option linter.unusedSimpArgs false
set_option linter.unusedVariables false
open Go
set_option maxRecDepth 100000

theorem sane8 : isTrue (callN env 60 8 [] []) = true := by decide +kernel
theorem sane_deep (hp : Hp) : deepE env (Call env) 8 [] hp = some (.bool true) := closed_deep e8 rfl sane8 hp
theorem runs_DigestForms : ∀ xs, OkArgs [.slice false [.i .i64] 8, .flat false [.s], .flat false [.i .u32]] xs → ∃ n hp, callN env n 5 xs [] = some (.bool true, hp) := by
  intro xs h
  obtain ⟨x0, _, rfl, h0, h⟩ := okArgs_cons h
  obtain ⟨x1, _, rfl, h1, h⟩ := okArgs_cons h
  obtain ⟨x2, _, rfl, h2, h⟩ := okArgs_cons h
  cases okArgs_nil h
  obtain ⟨l, rfl, _, _⟩ := arg_ints h0
  obtain ⟨s, rfl, _⟩ := arg_str h1
  obtain ⟨t, rfl, _⟩ := arg_int h2
  exact runs_call (c_forms e25 e9 e14 e15 e17 e5 e8 rfl sane_deep false true l s t)
theorem wf_u32 {n : Int} (h : (Lit.int .u32 n).wf = true) : okW n = true := by
  simp [Lit.wf, IntKind.min, IntKind.max, IntKind.signed, IntKind.bits] at h
  exact decide_eq_true (p := 0 ≤ n ∧ n < 4294967296) ⟨by omega, by omega⟩
theorem runs_DigestBack : ∀ xs, OkArgs [.flat true [.i .u32, .i .u32, .i .u32, .i .u32]] xs → ∃ n hp, callN env n 2 xs [] = some (.bool true, hp) := by
  intro xs h
  obtain ⟨x0, _, rfl, h0, h⟩ := okArgs_cons h
  cases okArgs_nil h
  obtain ⟨a, b, c, d, rfl, ha, hb, hc, hd⟩ := arg_quad h0
  exact runs_call (c_back e24 e6 e7 e2 e8 rfl sane_deep a b c d (wf_u32 ha) (wf_u32 hb) (wf_u32 hc) (wf_u32 hd))
theorem runs_DigestUndone : ∀ xs, OkArgs [.flat true [.i .u32, .i .u32, .i .u32, .i .u32]] xs → ∃ n hp, callN env n 3 xs [] = some (.bool true, hp) := by
  intro xs h
  obtain ⟨x0, _, rfl, h0, h⟩ := okArgs_cons h
  cases okArgs_nil h
  obtain ⟨a, b, c, d, rfl, ha, hb, hc, hd⟩ := arg_quad h0
  exact runs_call (c_undone e25 e9 e10 e3 e8 rfl sane_deep ⟨a, b, c, d⟩ ⟨wf_u32 ha, wf_u32 hb, wf_u32 hc, wf_u32 hd⟩)
theorem runs_DigestExact : ∀ xs, OkArgs [.flat true [.i .u32, .i .u32, .i .u32, .i .u32], .flat false [.i .u32], .slice false [.i .u32] 4, .slice false [.i .i64] 8, .flat false [.s]] xs → ∃ n hp, callN env n 4 xs [] = some (.bool true, hp) := by
  intro xs h
  obtain ⟨x0, _, rfl, h0, h⟩ := okArgs_cons h
  obtain ⟨x1, _, rfl, h1, h⟩ := okArgs_cons h
  obtain ⟨x2, _, rfl, h2, h⟩ := okArgs_cons h
  obtain ⟨x3, _, rfl, h3, h⟩ := okArgs_cons h
  obtain ⟨x4, _, rfl, h4, h⟩ := okArgs_cons h
  cases okArgs_nil h
  obtain ⟨a, b, c, d, rfl, ha, hb, hc, hd⟩ := arg_quad h0
  obtain ⟨t, rfl, _⟩ := arg_int h1
  obtain ⟨l, rfl, _, _⟩ := arg_ints h2
  obtain ⟨n, rfl, _, _⟩ := arg_ints h3
  obtain ⟨s, rfl, hs⟩ := arg_str h4
  exact runs_call (c_exact e24 e6 e7 e11 e25 e9 e14 e15 e17 e19 e26 e13 e12 e16 e18 e20 e21 e4 e8 rfl sane_deep a b c d t (wf_u32 ha) (wf_u32 hb) (wf_u32 hc) (wf_u32 hd) false true false true l n s hs)
end Go.Proofs.Ytepedjncjehmgaa.Sim
