/- What the arguments of a law are, spelled out; closed calls. No conditions. -/
import Derived.Test.YtepedjncjehmgaaSimB2
namespace Go.Proofs.Ytepedjncjehmgaa.Sim
set_option linter.unusedSimpArgs false
set_option linter.unusedVariables false
open Go

theorem okArgs_nil {xs : List S} (h : OkArgs [] xs) : xs = [] := by cases h; rfl
theorem okArgs_cons {k : AT} {ks : List AT} {xs : List S} (h : OkArgs (k :: ks) xs) : ∃ x ys, xs = x :: ys ∧ OkArg k x ∧ OkArgs ks ys := by
  cases h with
  | cons h1 h2 => exact ⟨_, _, rfl, h1, h2⟩
theorem okCells_cons {k : FK} {ks : List FK} {xs : List S} (h : OkCells (k :: ks) xs) : ∃ x ys, xs = x :: ys ∧ OkCell k x ∧ OkCells ks ys := by
  cases h with
  | cons h1 h2 => exact ⟨_, _, rfl, h1, h2⟩
theorem okCells_nil {xs : List S} (h : OkCells [] xs) : xs = [] := by cases h; rfl

theorem okFlat_one {k : FK} {x : S} (h : OkFlat false [k] x) : OkCell k x := by
  obtain ⟨cs, h1, h2⟩ := h
  obtain ⟨c, ys, rfl, h3, h4⟩ := okCells_cons h1
  cases okCells_nil h4
  simp only [mk, Bool.false_eq_true, if_false, Option.some.injEq] at h2
  subst h2; exact h3
theorem okFlat_agg {ks : List FK} {x : S} (h : OkFlat true ks x) : ∃ cs, OkCells ks cs ∧ x = .agg cs := by
  obtain ⟨cs, h1, h2⟩ := h
  simp only [mk, if_true, Option.some.injEq] at h2
  exact ⟨cs, h1, h2.symm⟩

theorem arg_int {k : IntKind} {x : S} (h : OkArg (.flat false [.i k]) x) : ∃ n, x = .int k n ∧ (Lit.int k n).wf = true := okFlat_one h
theorem arg_bool {x : S} (h : OkArg (.flat false [.b]) x) : ∃ b, x = .bool b := okFlat_one h
theorem arg_str {x : S} (h : OkArg (.flat false [.s]) x) : ∃ l, x = .str l ∧ l.length ≤ 140737488351232 := okFlat_one h
theorem arg_ints {k : IntKind} {b : Nat} {x : S} (h : OkArg (.slice false [.i k] b) x) : ∃ l : List Int, x = .list false true (l.map (.int k)) ∧ (∀ n ∈ l, (Lit.int k n).wf = true) ∧ l.length * b ≤ 140737488351232 := by
  obtain ⟨xs, rfl, h1, h2⟩ := h
  have : ∀ xs : List S, (∀ y ∈ xs, OkFlat false [.i k] y) → ∃ l : List Int, xs = l.map (.int k) ∧ ∀ n ∈ l, (Lit.int k n).wf = true := by
    intro xs
    induction xs with
    | nil => exact fun _ => ⟨[], rfl, fun n hn => by cases hn⟩
    | cons x xs ih =>
      intro h
      obtain ⟨n, rfl, hn⟩ := okFlat_one (h x (List.mem_cons_self ..))
      obtain ⟨l, rfl, hl⟩ := ih (fun y hy => h y (List.mem_cons_of_mem _ hy))
      refine ⟨n :: l, rfl, fun m hm => ?_⟩
      rcases List.mem_cons.1 hm with rfl | hm
      · exact hn
      · exact hl m hm
  obtain ⟨l, rfl, hl⟩ := this xs h1
  exact ⟨l, rfl, hl, by simpa using h2⟩
theorem arg_strs {b : Nat} {x : S} (h : OkArg (.slice false [.s] b) x) : ∃ l : List (List UInt8), x = .list false true (l.map .str) ∧ (∀ n ∈ l, n.length ≤ 140737488351232) ∧ l.length * b ≤ 140737488351232 := by
  obtain ⟨xs, rfl, h1, h2⟩ := h
  have : ∀ xs : List S, (∀ y ∈ xs, OkFlat false [.s] y) → ∃ l : List (List UInt8), xs = l.map .str ∧ ∀ n ∈ l, n.length ≤ 140737488351232 := by
    intro xs
    induction xs with
    | nil => exact fun _ => ⟨[], rfl, fun n hn => by cases hn⟩
    | cons x xs ih =>
      intro h
      obtain ⟨n, rfl, hn⟩ := okFlat_one (h x (List.mem_cons_self ..))
      obtain ⟨l, rfl, hl⟩ := ih (fun y hy => h y (List.mem_cons_of_mem _ hy))
      refine ⟨n :: l, rfl, fun m hm => ?_⟩
      rcases List.mem_cons.1 hm with rfl | hm
      · exact hn
      · exact hl m hm
  obtain ⟨l, rfl, hl⟩ := this xs h1
  exact ⟨l, rfl, hl, by simpa using h2⟩
theorem arg_quad {k : IntKind} {x : S} (h : OkArg (.flat true [.i k, .i k, .i k, .i k]) x) : ∃ a b c d, x = .agg [.int k a, .int k b, .int k c, .int k d] ∧ (Lit.int k a).wf = true ∧ (Lit.int k b).wf = true ∧ (Lit.int k c).wf = true ∧ (Lit.int k d).wf = true := by
  obtain ⟨cs, h1, rfl⟩ := okFlat_agg h
  obtain ⟨x1, _, rfl, ⟨a, rfl, h2⟩, h3⟩ := okCells_cons h1
  obtain ⟨x1, _, rfl, ⟨b, rfl, h4⟩, h5⟩ := okCells_cons h3
  obtain ⟨x1, _, rfl, ⟨c, rfl, h6⟩, h7⟩ := okCells_cons h5
  obtain ⟨x1, _, rfl, ⟨d, rfl, h8⟩, h9⟩ := okCells_cons h7
  cases okCells_nil h9
  exact ⟨a, b, c, d, rfl, h2, h4, h6, h8⟩

def isTrue : Option (S × Hp) → Bool
  | some (.bool true, _) => true
  | _ => false
theorem isTrue_some {o : Option (S × Hp)} (h : isTrue o = true) : ∃ hp, o = some (.bool true, hp) := by
  unfold isTrue at h
  split at h
  · exact ⟨_, rfl⟩
  · cases h

/-- A closed call that answers true, as a deep call. -/
theorem closed_deep {E : Env} {f n : Nat} {c : CFun} (hE : E f = some (.code c)) (hd : c.deep = true) (h : isTrue (callN E n f [] []) = true) (hp : Hp) : deepE E (Call E) f [] hp = some (.bool true) := by
  obtain ⟨hp', h⟩ := isTrue_some h
  have hc : Call E f [] [] = some (.bool true, hp') := Call_iff.2 ⟨_, h⟩
  rw [deep_code hE hd, deep]
  simp only [mapO, hc]
  rfl
theorem runs_call {E : Env} {f : Nat} {xs : List S} (h : ∃ hp, Call E f xs [] = some (.bool true, hp)) : ∃ n hp, callN E n f xs [] = some (.bool true, hp) := by
  obtain ⟨hp, h⟩ := h
  obtain ⟨n, h⟩ := Call_iff.1 h
  exact ⟨n, hp, h⟩
end Go.Proofs.Ytepedjncjehmgaa.Sim
