/- Slices that grow by appends, in the small machine. What the arguments of a law are, spelled out; closed calls. Closed runs with some functions taken for what they answer: such a run is followed by the run with the functions' own code. Regions of open order, step by step: for those that run otherwise than in the order of the text. No conditions. -/
import Derived.Test.YtkafliflpplpeaaSimB2
import Derived.KernelRfl
namespace Go.Proofs.Ytkafliflpplpeaa.Sim
set_option linter.unusedSimpArgs false
set_option linter.unusedVariables false
open Go

/-- A slice that began as nil and grew: nil, or over a block behind the blocks H. -/
def growS (H : Hp) (acc : List S) : S := if acc.isEmpty then .list true true [] else .own H.length acc.length 0 acc.length
def growH (H : Hp) (esz : Nat) (acc : List S) : Hp := if acc.isEmpty then H else H ++ [.rows true esz acc]

theorem growS_nil (H) : growS H [] = .list true true [] := rfl
theorem growH_nil (H esz) : growH H esz [] = H := rfl
theorem growS_cons (H a acc) : growS H (a :: acc) = .own H.length (acc.length + 1) 0 (acc.length + 1) := rfl
theorem growH_cons (H esz a acc) : growH H esz (a :: acc) = H ++ [.rows true esz (a :: acc)] := rfl
theorem growS_ne {H : Hp} {acc : List S} (h : acc ≠ []) : growS H acc = .own H.length acc.length 0 acc.length := by
  cases acc with
  | nil => exact absurd rfl h
  | cons a r => rfl
theorem growH_ne {H : Hp} {esz : Nat} {acc : List S} (h : acc ≠ []) : growH H esz acc = H ++ [.rows true esz acc] := by
  cases acc with
  | nil => exact absurd rfl h
  | cons a r => rfl

theorem keep1_grow (ks H acc) : keep1 ks (growS H acc) = growS H acc := by cases acc <;> rfl
theorem forget1_grow (t H acc) : forget1 t (growS H acc) = growS H acc := by cases acc <;> rfl
theorem okv_grow (H acc) : S.okv (growS H acc) = true := by cases acc <;> rfl
theorem cells_grow (H acc) : S.cells (growS H acc) = [growS H acc] := by cases acc <;> rfl
theorem lenS_grow (H acc) : lenS false (growS H acc) = some (.int .i64 acc.length) := by cases acc <;> rfl
theorem outable_grow (H acc) : S.outable (growS H acc) = true := by cases acc <;> rfl
theorem trim_grow (H : Hp) (esz : Nat) (acc : List S) (h : trim H = H) : trim (growH H esz acc) = growH H esz acc := by
  cases acc with
  | nil => exact h
  | cons a r =>
    rw [growH_cons]
    have : ∀ (H : Hp) (b : Blk), b ≠ .dead → trim (H ++ [b]) = H ++ [b] := by
      intro H b hb
      induction H with
      | nil => cases b <;> simp_all [trim]
      | cons c r ih =>
        simp only [List.cons_append, trim, ih]
        cases c <;> try rfl
        cases r <;> rfl
    exact this H _ (by simp)

theorem snapA_grow {H : Hp} {esz : Nat} {acc : List S} (h : acc.all S.atomR = true) : snapA (growH H esz acc) (growS H acc) = some (.list acc.isEmpty acc.isEmpty acc) := by
  cases acc with
  | nil => rfl
  | cons a r =>
    rw [growS_cons, growH_cons, snapA_own]
    simp only [List.getElem?_append_right (Nat.le_refl _), Nat.sub_self, List.getElem?_cons_zero]
    rw [ownO_atoms (xs := a :: r) (off := 0) (len := r.length + 1) (by simp) (by simp) h]
    simp

theorem snapA_grow2 {H : Hp} {esz esz' : Nat} {acc acc' : List S} (h : acc.all S.atomR = true) : snapA (growH (growH H esz acc) esz' acc') (growS H acc) = some (.list acc.isEmpty acc.isEmpty acc) := by
  cases acc with
  | nil => rfl
  | cons a r =>
    have hg : (growH (growH H esz (a :: r)) esz' acc')[H.length]? = some (.rows true esz (a :: r)) := by
      cases acc' with
      | nil => rw [growH_nil, growH_cons]; simp
      | cons b q => rw [growH_cons, growH_cons]; simp
    rw [growS_cons, snapA_own, hg]
    rw [ownO_atoms (xs := a :: r) (off := 0) (len := r.length + 1) (by simp) (by simp) h]
    simp

theorem snapR_grow {H : Hp} {esz : Nat} {acc : List S} (h : acc.all S.atomR = true) : snapR (growH H esz acc) (growS H acc) = some (.list acc.isEmpty true acc) := by
  cases acc with
  | nil => rfl
  | cons a r =>
    rw [growS_cons, growH_cons, snapR_own]
    simp only [List.getElem?_append_right (Nat.le_refl _), Nat.sub_self, List.getElem?_cons_zero]
    rw [ownO_atoms (xs := a :: r) (off := 0) (len := r.length + 1) (by simp) (by simp) h]
    simp

theorem all_append {f : S → Bool} {xs ys : List S} (h1 : xs.all f = true) (h2 : ys.all f = true) : (xs ++ ys).all f = true := by simp_all

/-- One more append. -/
theorem app_grow {E : Env} {C : CallF} {d : Nat} {os : List KO} {fr : Fr} {vars : Vars} {H : Hp} {esz bytes : Nat} {acc : List S} {f p : Bool} {ys : List S}
    (h1 : eszAll esz acc = true) (h2 : eszAll esz ys = true) (h3 : okLen (acc.length + ys.length) bytes = true) (hesz : ys ≠ []) :
    onR E C (some d) os ⟨fr, vars, growH H esz acc⟩ (appV vars (growH H esz acc) esz bytes (growS H acc) (.list f p ys)) =
      runOps E C os ⟨(d, growS H (acc ++ ys)) :: fr, vars, growH H esz (acc ++ ys)⟩ := by
  have hy : ys.isEmpty = false := by cases ys <;> simp_all
  have hne : acc ++ ys ≠ [] := by simp [hesz]
  simp only [appV, elemsR, h2, if_true]
  cases acc with
  | nil =>
    simp only [growS_nil, growH_nil, appendR, hy, Bool.false_eq_true, if_false, List.length_nil, Nat.zero_add, List.nil_append]
    have h4 : okLen ys.length bytes = true := by simpa using h3
    simp only [h4, eszAll, List.all_nil, and_self, if_true, onR_some, wrs_cons, wrs_nil, wr_h, put_some, if_true, growS_ne hesz, growH_ne hesz]
  | cons a r =>
    rw [growS_cons, growH_cons, growS_ne hne, growH_ne hne]
    simp only [appendR, List.getElem?_append_right (Nat.le_refl _), Nat.sub_self, List.getElem?_cons_zero, List.length_cons, true_and, Nat.le_refl, and_self, if_true, hy, Bool.false_eq_true, if_false]
    have hpos : ¬ (r.length + 1 + ys.length ≤ r.length + 1) := by
      have : 0 < ys.length := List.length_pos_iff.2 hesz
      omega
    have h4 : okLen (r.length + 1 + ys.length) bytes = true := by simpa using h3
    simp only [hpos, if_false, h4, if_true, onR_some, wrs_cons, wrs_nil, wr_h, put_some]
    have hlt : ¬ (H.length = (H ++ [Blk.rows true esz (a :: r)]).length) := by simp
    rw [if_neg hlt, List.set_append_right _ _ (Nat.le_refl _)]
    simp only [Nat.sub_self, List.set_cons_zero, List.length_append, List.length_cons]

/-- An append to a full slice of the machine's own that was made by 'make' or over an array: a new block. -/
theorem app_exact {E : Env} {C : CallF} {d : Nat} {os : List KO} {fr : Fr} {vars : Vars} {H : Hp} {l n esz bytes : Nat} {xs : List S} {f p : Bool} {ys : List S}
    (hb : H[l]? = some (.rows false esz xs)) (hn : n = xs.length) (h2 : eszAll esz ys = true) (h3 : okLen (xs.length + ys.length) bytes = true) (hy : ys ≠ []) :
    onR E C (some d) os ⟨fr, vars, H⟩ (appV vars H esz bytes (.own l n 0 n) (.list f p ys)) =
      runOps E C os ⟨(d, .own H.length (xs.length + ys.length) 0 (xs.length + ys.length)) :: fr, vars, H ++ [.rows true esz (xs ++ ys)]⟩ := by
  subst hn
  have hye : ys.isEmpty = false := by cases ys <;> simp_all
  have hpos : ¬ (xs.length + ys.length ≤ xs.length) := by
    have : 0 < ys.length := List.length_pos_iff.2 hy
    omega
  simp only [appV, elemsR, h2, if_true, appendR, hb, and_self, Nat.le_refl, hye, Bool.false_eq_true, if_false, hpos, h3, onR_some, wrs_cons, wrs_nil, wr_h, put_some, List.take_length]

theorem snapA_last {H : Hp} {fz : Bool} {esz l n : Nat} {xs : List S} (hb : H[l]? = some (.rows fz esz xs)) (hn : n = xs.length) (h : xs.all S.atomR = true) : snapA H (.own l n 0 n) = some (.list false false xs) := by
  subst hn
  rw [snapA_own, hb, ownO_atoms rfl (by simp) h]
  simp

end Go.Proofs.Ytkafliflpplpeaa.Sim
namespace Go.Proofs.Ytkafliflpplpeaa.Sim
set_option linter.unusedSimpArgs false
set_option linter.unusedVariables false
open Go

theorem okArgs_nil {xs : List S} (h : OkArgs [] xs) : xs = [] := by cases h; rfl
theorem okArgs_cons {k : AT} {ks : List AT} {xs : List S} (h : OkArgs (k :: ks) xs) : ∃ x ys, xs = x :: ys ∧ OkArg k x ∧ OkArgs ks ys := by
  cases h with
  | cons h1 h2 => exact ⟨_, _, rfl, h1, h2⟩
theorem okCells_cons {k : FK} {ks : List FK} {xs : List S} (h : OkCells (k :: ks) xs) : ∃ x ys, xs = x :: ys ∧ OkCell k x ∧ OkCells ks ys := by
  cases h with
  | cons h1 h2 => exact ⟨_, _, rfl, h1, h2⟩
theorem okCells_nil {xs : List S} (h : OkCells [] xs) : xs = [] := by cases h; rfl

theorem okFlat_one {k : FK} {x : S} (h : OkFlat false [k] x) : OkCell k x := by
  obtain ⟨cs, h1, h2⟩ := h
  obtain ⟨c, ys, rfl, h3, h4⟩ := okCells_cons h1
  cases okCells_nil h4
  simp only [mk, Bool.false_eq_true, if_false, Option.some.injEq] at h2
  subst h2; exact h3
theorem okFlat_agg {ks : List FK} {x : S} (h : OkFlat true ks x) : ∃ cs, OkCells ks cs ∧ x = .agg cs := by
  obtain ⟨cs, h1, h2⟩ := h
  simp only [mk, if_true, Option.some.injEq] at h2
  exact ⟨cs, h1, h2.symm⟩

theorem arg_int {k : IntKind} {x : S} (h : OkArg (.flat false [.i k]) x) : ∃ n, x = .int k n ∧ (Lit.int k n).wf = true := okFlat_one h
theorem arg_bool {x : S} (h : OkArg (.flat false [.b]) x) : ∃ b, x = .bool b := okFlat_one h
theorem arg_str {x : S} (h : OkArg (.flat false [.s]) x) : ∃ l, x = .str l ∧ l.length ≤ 140737488351232 := okFlat_one h
theorem arg_ints {k : IntKind} {b : Nat} {x : S} (h : OkArg (.slice false [.i k] b) x) : ∃ l : List Int, x = .list false true (l.map (.int k)) ∧ (∀ n ∈ l, (Lit.int k n).wf = true) ∧ l.length * b ≤ 140737488351232 := by
  obtain ⟨xs, rfl, h1, h2⟩ := h
  have : ∀ xs : List S, (∀ y ∈ xs, OkFlat false [.i k] y) → ∃ l : List Int, xs = l.map (.int k) ∧ ∀ n ∈ l, (Lit.int k n).wf = true := by
    intro xs
    induction xs with
    | nil => exact fun _ => ⟨[], rfl, fun n hn => by cases hn⟩
    | cons x xs ih =>
      intro h
      obtain ⟨n, rfl, hn⟩ := okFlat_one (h x (List.mem_cons_self ..))
      obtain ⟨l, rfl, hl⟩ := ih (fun y hy => h y (List.mem_cons_of_mem _ hy))
      refine ⟨n :: l, rfl, fun m hm => ?_⟩
      rcases List.mem_cons.1 hm with rfl | hm
      · exact hn
      · exact hl m hm
  obtain ⟨l, rfl, hl⟩ := this xs h1
  exact ⟨l, rfl, hl, by simpa using h2⟩
theorem arg_strs {b : Nat} {x : S} (h : OkArg (.slice false [.s] b) x) : ∃ l : List (List UInt8), x = .list false true (l.map .str) ∧ (∀ n ∈ l, n.length ≤ 140737488351232) ∧ l.length * b ≤ 140737488351232 := by
  obtain ⟨xs, rfl, h1, h2⟩ := h
  have : ∀ xs : List S, (∀ y ∈ xs, OkFlat false [.s] y) → ∃ l : List (List UInt8), xs = l.map .str ∧ ∀ n ∈ l, n.length ≤ 140737488351232 := by
    intro xs
    induction xs with
    | nil => exact fun _ => ⟨[], rfl, fun n hn => by cases hn⟩
    | cons x xs ih =>
      intro h
      obtain ⟨n, rfl, hn⟩ := okFlat_one (h x (List.mem_cons_self ..))
      obtain ⟨l, rfl, hl⟩ := ih (fun y hy => h y (List.mem_cons_of_mem _ hy))
      refine ⟨n :: l, rfl, fun m hm => ?_⟩
      rcases List.mem_cons.1 hm with rfl | hm
      · exact hn
      · exact hl m hm
  obtain ⟨l, rfl, hl⟩ := this xs h1
  exact ⟨l, rfl, hl, by simpa using h2⟩
theorem arg_quad {k : IntKind} {x : S} (h : OkArg (.flat true [.i k, .i k, .i k, .i k]) x) : ∃ a b c d, x = .agg [.int k a, .int k b, .int k c, .int k d] ∧ (Lit.int k a).wf = true ∧ (Lit.int k b).wf = true ∧ (Lit.int k c).wf = true ∧ (Lit.int k d).wf = true := by
  obtain ⟨cs, h1, rfl⟩ := okFlat_agg h
  obtain ⟨x1, _, rfl, ⟨a, rfl, h2⟩, h3⟩ := okCells_cons h1
  obtain ⟨x1, _, rfl, ⟨b, rfl, h4⟩, h5⟩ := okCells_cons h3
  obtain ⟨x1, _, rfl, ⟨c, rfl, h6⟩, h7⟩ := okCells_cons h5
  obtain ⟨x1, _, rfl, ⟨d, rfl, h8⟩, h9⟩ := okCells_cons h7
  cases okCells_nil h9
  exact ⟨a, b, c, d, rfl, h2, h4, h6, h8⟩

def isTrue : Option (S × Hp) → Bool
  | some (.bool true, _) => true
  | _ => false
theorem isTrue_some {o : Option (S × Hp)} (h : isTrue o = true) : ∃ hp, o = some (.bool true, hp) := by
  unfold isTrue at h
  split at h
  · exact ⟨_, rfl⟩
  · cases h

/-- A closed call that answers true, as a deep call. -/
theorem closed_deep {E : Env} {f n : Nat} {c : CFun} (hE : E f = some (.code c)) (hd : c.deep = true) (h : isTrue (callN E n f [] []) = true) (hp : Hp) : deepE E (Call E) f [] hp = some (.bool true) := by
  obtain ⟨hp', h⟩ := isTrue_some h
  have hc : Call E f [] [] = some (.bool true, hp') := Call_iff.2 ⟨_, h⟩
  rw [deep_code hE hd, deep]
  simp only [mapO, hc]
  rfl
theorem runs_call {E : Env} {f : Nat} {xs : List S} (h : ∃ hp, Call E f xs [] = some (.bool true, hp)) : ∃ n hp, callN E n f xs [] = some (.bool true, hp) := by
  obtain ⟨hp, h⟩ := h
  obtain ⟨n, h⟩ := Call_iff.1 h
  exact ⟨n, hp, h⟩
end Go.Proofs.Ytkafliflpplpeaa.Sim
namespace Go.Proofs.Ytkafliflpplpeaa.Sim
set_option linter.unusedSimpArgs false
set_option linter.unusedVariables false
open Go
set_option linter.unusedSectionVars false
set_option linter.unusedSimpArgs false

/-- E' has some functions as answers that E comes to by their code. -/
structure Swap (E E' : Env) : Prop where
  same : ∀ f, E' f = E f ∨ ∃ s, E' f = some (.prim s) ∧ (∃ g, E f = some g ∧ g.isDeep = true) ∧ (∀ as r, s as = some r → ownR [] r = none ∧ ∀ v, snapR [] r = some v → backR (Call E f as []) = some v)

theorem evalK_swap {dp dp2 : Nat → List S → Hp → Option S} (h : ∀ f a hp v, dp f a hp = some v → dp2 f a hp = some v) {slot : Nat} {st : St} {q : K} {r : R} (he : evalK dp slot st q = some r) : evalK dp2 slot st q = some r := by
  cases q
  case call f args =>
    simp only [evalK, Option.map_eq_some_iff] at he ⊢
    obtain ⟨v, h1, h2⟩ := he
    exact ⟨v, h _ _ _ _ h1, h2⟩
  case callo f args =>
    rw [evalK_callo] at he ⊢
    cases hd : dp (f + ownOff) (evs st.fr args) st.hp with
    | none => rw [hd] at he; cases he
    | some v => rw [hd] at he; rw [h _ _ _ _ hd]; exact he
  case callv f args =>
    simp only [evalK] at he ⊢
    split at he
    · rename_i g caps hf
      (try simp only [hf])
      simp only [Option.map_eq_some_iff] at he ⊢
      obtain ⟨v, h1, h2⟩ := he
      exact ⟨v, h _ _ _ _ h1, h2⟩
    · cases he
  case alloc fr esz init => cases fr <;> exact he
  all_goals exact he

section
variable {E E' : Env} (sw : Swap E E') {n : Nat} (ih : ∀ f as hp x, E' f = E f → callN E' n f as hp = some x → Call E f as hp = some x)
include sw ih

theorem deepE_swap {f : Nat} {args : List S} {hp : Hp} {v : S} (h : deepE E' (callN E' n) f args hp = some v) : deepE E (Call E) f args hp = some v := by
  unfold deepE at h
  split at h
  · rename_i g hg
    split at h
    · rename_i hd
      rcases sw.same f with hs | ⟨s, h1, ⟨g', h2, h3⟩, h4⟩
      · unfold deepE
        rw [← hs, hg]
        simp only [hd, if_true]
        unfold deep at h ⊢
        split at h
        · cases h
        · split at h
          · cases h
          · rename_i r hp' hc
            rw [ih _ _ _ _ hs hc]
            exact h
      · unfold deepE
        rw [h2]
        simp only [h3, if_true]
        rw [deep_go]
        unfold deep at h
        split at h
        · cases h
        · rename_i as has
          rw [has, goD_some]
          split at h
          · cases h
          · rename_i r hp' hc
            cases n with
            | zero => simp [callN] at hc
            | succ n =>
              simp only [callN, h1] at hc
              split at hc
              · rename_i r' hr'
                cases hc
                exact (h4 _ _ hr').2 _ h
              · cases hc
    · cases h
  · rename_i hnone
    have hE : E f = none := by
      rcases sw.same f with hs | ⟨s, h1, _⟩
      · rw [← hs, hnone]
      · rw [hnone] at h1; cases h1
    split at h
    · rename_i q hq
      split at h
      · rename_i g hg
        split at h
        · rename_i hd
          rcases sw.same q with hs | ⟨s, h1, _, h4⟩
          · unfold deepE
            rw [hE]
            simp only [hq]
            rw [← hs, hg]
            simp only [hd, if_true]
            unfold deepO at h ⊢
            split at h
            · cases h
            · split at h
              · cases h
              · rename_i r hp' hc
                rw [ih _ _ _ _ hs hc]
                exact h
          · exfalso
            unfold deepO at h
            split at h
            · cases h
            · split at h
              · cases h
              · rename_i r hp' hc
                cases n with
                | zero => simp [callN] at hc
                | succ n =>
                  simp only [callN, h1] at hc
                  split at hc
                  · rename_i r' hr'
                    cases hc
                    rw [(h4 _ _ hr').1] at h
                    cases h
                  · cases hc
        · cases h
      · cases h
    · cases h

theorem notDeep_swap {f : Nat} {g : Fun} (h : E' f = some g) (hd : g.isDeep = false) : E' f = E f := by
  rcases sw.same f with hs | ⟨s, h1, _⟩
  · exact hs
  · rw [h1] at h; cases h; cases hd

theorem stepK_swap {o : KO} {st st' : St} (h : stepK E' (callN E' n) o st = some st') : stepK E (Call E) o st = some st' := by
  unfold stepK at h ⊢
  split at h
  · rename_i v rd wr he
    rw [evalK_swap (fun f a hp v => deepE_swap sw ih) he]
    exact h
  · split at h
    · rename_i f args hcal
      split at h
      · rename_i g hg
        split at h
        · cases h
        · rename_i hd
          have hs := notDeep_swap sw ih hg (by simpa using hd)
          have hE : E f = some g := by rw [← hs, hg]
          rw [evalK_shut hcal hE (by simpa using hd)]
          simp only [hcal, hE, hd]
          split at h
          · rename_i hh
            split at h
            · rename_i v hp' hc
              rw [ih _ _ _ _ hs hc]
              simp only [hh, if_true]
              exact h
            · cases h
          · cases h
      · cases h
    · cases h

theorem runOps_swap : ∀ (ops : List KO) (st st' : St), runOps E' (callN E' n) ops st = some st' → runOps E (Call E) ops st = some st'
  | [], st, st', h => h
  | o :: os, st, st', h => by
    simp only [runOps] at h ⊢
    split at h
    · cases h
    · rename_i hw; (try simp only [hw]); exact runOps_swap os _ _ h
    · rename_i hw
      (try simp only [hw])
      split at h
      · rename_i st1 h1
        rw [stepK_swap sw ih h1]
        exact runOps_swap os _ _ h
      · cases h

theorem runD_swap : ∀ (ops : List KO) (slot : Nat) (st : St) (r : St × List En), runD E' (callN E' n) slot ops st = some r → runD E (Call E) slot ops st = some r
  | [], slot, st, r, h => h
  | o :: os, slot, st, r, h => by
    simp only [runD] at h ⊢
    split at h
    · cases h
    · rename_i hw
      (try simp only [hw])
      split at h
      · rename_i st1 l h1
        rw [runD_swap os _ _ _ h1]
        exact h
      · cases h
    · rename_i hw
      (try simp only [hw])
      split at h
      · rename_i v rd wr he
        rw [evalK_swap (fun f a hp v => deepE_swap sw ih) he]
        simp only
        split at h
        · rename_i hc
          rw [if_pos hc]
          split at h
          · rename_i st1 l h1
            rw [runD_swap os _ _ _ h1]
            exact h
          · cases h
        · cases h
      · cases h

theorem runC_swap : ∀ (k : KC) (st : St) (r : Ex × St), runC E' (callN E' n) n k st = some r → Run E k st = some r
  | .skip, st, r, h => by rw [Run_skip]; exact h
  | .ret, st, r, h => by rw [Run_ret]; exact h
  | .exit i, st, r, h => by rw [Run_exit]; exact h
  | .region ops, st, r, h => by
    simp only [runC] at h
    split at h
    · rename_i st' h1
      rw [Run_region, runOps_swap sw ih _ _ _ h1]; exact h
    · cases h
  | .dregion ops, st, r, h => by
    simp only [runC] at h
    split at h
    · rename_i st' h1
      rw [Run_dregion]
      unfold regionD at h1 ⊢
      split at h1
      · rename_i st2 l h2
        rw [runD_swap sw ih _ _ _ _ h2]
        simp only
        split at h1
        · rename_i hc; rw [if_pos hc]; cases h1; exact h
        · cases h1
      · cases h1
    · cases h
  | .seq a b, st, r, h => by
    simp only [runC] at h
    rw [Run_seq]
    split at h
    · rename_i st' h1
      rw [runC_swap a _ _ h1]
      exact runC_swap b _ _ h
    · rename_i h1
      cases h2 : runC E' (callN E' n) n a st with
      | none => rw [h2] at h; cases h
      | some q =>
        obtain ⟨ex, st2⟩ := q
        rw [h2] at h
        cases h
        rw [runC_swap a _ _ h2]
        cases ex with
        | norm => exact absurd h2 (h1 _)
        | exit i => rfl
        | ret => rfl
  | .cond c x y, st, r, h => by
    simp only [runC] at h
    rw [Run_cond]
    split at h
    · rename_i hc; (try simp only [hc]); exact runC_swap x _ _ h
    · rename_i hc; (try simp only [hc]); exact runC_swap y _ _ h
    · cases h
  | .block id keep b, st, r, h => by
    simp only [runC] at h
    rw [Run_block]
    split at h
    · rename_i st' h1; rw [runC_swap b _ _ h1]; exact h
    · rename_i i st' h1; rw [runC_swap b _ _ h1]; exact h
    · rename_i h1 h3
      cases h2 : runC E' (callN E' n) n b st with
      | none => rw [h2] at h; cases h
      | some q =>
        obtain ⟨ex, st2⟩ := q
        rw [h2] at h
        cases h
        rw [runC_swap b _ _ h2]
        cases ex with
        | norm => exact absurd h2 (h1 _)
        | exit i => exact absurd h2 (h3 _ _)
        | ret => rfl
  | .loop keep b, st, r, h => by
    simp only [runC] at h
    have : ∀ (m : Nat) (st : St) (r : Ex × St), loopN keep (runC E' (callN E' n) n b) m st = some r → Run E (.loop keep b) st = some r := by
      intro m
      induction m with
      | zero => intro st r h; simp [loopN] at h
      | succ m ihm =>
        intro st r h
        simp only [loopN] at h
        rw [Run_loop]
        split at h
        · rename_i st' h1
          rw [runC_swap b _ _ h1]
          exact ihm _ _ h
        · rename_i h1
          cases h2 : runC E' (callN E' n) n b (st.keep keep) with
          | none => rw [h2] at h; cases h
          | some q =>
            obtain ⟨ex, st2⟩ := q
            rw [h2] at h
            cases h
            rw [runC_swap b _ _ h2]
            cases ex with
            | norm => exact absurd h2 (h1 _)
            | exit i => rfl
            | ret => rfl
    exact this n st r h
end

theorem callN_swap {E E' : Env} (sw : Swap E E') : ∀ (n f : Nat) (as : List S) (hp : Hp) (x : S × Hp), E' f = E f → callN E' n f as hp = some x → Call E f as hp = some x
  | 0, f, as, hp, x, _, h => by simp [callN] at h
  | n + 1, f, as, hp, x, hs, h => by
    have ih := callN_swap sw n
    simp only [callN] at h
    rw [hs] at h
    split at h
    · cases h
    · rename_i s hE
      rw [Call_prim E hE]
      split at h
      · rename_i r hr; cases h; rw [hr]; rfl
      · cases h
    · rename_i s hE
      rw [Call_iprim E hE]; exact h
    · rename_i c hE
      rw [Call_code E hE]
      split at h
      · rename_i hl
        rw [if_pos hl]
        cases h2 : runC E' (callN E' n) n c.body ⟨argsF 0 as, [], hp⟩ with
        | none => rw [h2] at h; simp [finish] at h
        | some q =>
          rw [h2] at h
          rw [runC_swap sw ih _ _ _ h2]
          exact h
      · cases h

theorem closed_swap {E E' : Env} (sw : Swap E E') {f n : Nat} {c : CFun} (hE : E f = some (.code c)) (hs : E' f = E f) (hd : c.deep = true) (h : isTrue (callN E' n f [] []) = true) (hp : Hp) : deepE E (Call E) f [] hp = some (.bool true) := by
  obtain ⟨hp', h⟩ := isTrue_some h
  have hc : Call E f [] [] = some (.bool true, hp') := callN_swap sw _ _ _ _ _ hs h
  rw [deep_code hE hd, deep]
  simp only [mapO, hc]
  rfl
end Go.Proofs.Ytkafliflpplpeaa.Sim
namespace Go.Proofs.Ytkafliflpplpeaa.Sim
set_option linter.unusedSimpArgs false
set_option linter.unusedVariables false
open Go
set_option linter.unusedSimpArgs false

section
variable {E : Env} {call : CallF} {slot : Nat} {os : List KO} {fr : Fr} {vars : Vars} {hp : Hp} {st' : St} {l : List En}

theorem runD_q {d : Nat} {op : K} {a : List Nat} {v : S} {rd : List L} (hal : op.allocs = false) (hfv : op.fvar = none) (he : evalK (deepE E call) slot ⟨fr, vars, hp⟩ op = some (v, rd, []))
    (hr : runD E call slot os ⟨(d, v) :: fr, vars, hp⟩ = some (st', l)) : runD E call slot (⟨some d, op, none, a⟩ :: os) ⟨fr, vars, hp⟩ = some (st', ⟨⟨some d, op, none, a⟩, v, rd, []⟩ :: l) := by
  rw [runD]
  simp only [wantK, he, hal, hfv, List.all_nil, true_or, and_self, if_true, Bool.false_eq_true, if_false, St.wrs, St.put, hr]

theorem runD_a {d : Nat} {op : K} {a : List Nat} {v : S} {rd : List L} (hal : op.allocs = true) (hfv : op.fvar = none) (hd : isDead (hp[slot]?) = true) (he : evalK (deepE E call) slot ⟨fr, vars, hp⟩ op = some (v, rd, []))
    (hr : runD E call (slot + 1) os ⟨(d, v) :: fr, vars, hp⟩ = some (st', l)) : runD E call slot (⟨some d, op, none, a⟩ :: os) ⟨fr, vars, hp⟩ = some (st', ⟨⟨some d, op, none, a⟩, v, .h slot :: rd, []⟩ :: l) := by
  rw [runD]
  simp only [wantK, he, hal, hfv, hd, List.all_nil, or_true, and_self, if_true, St.wrs, St.put, hr]

theorem runD_w {d : Nat} {op : K} {a : List Nat} {v : S} {rd : List L} {n : Nat} {b : Blk} {hp2 : Hp} (hal : op.allocs = true) (hfv : op.fvar = none) (hd : isDead (hp[slot]?) = true) (he : evalK (deepE E call) slot ⟨fr, vars, hp⟩ op = some (v, rd, [(.h n, b)]))
    (hn : n < hp.length) (hh : hp.set n b = hp2) (hr : runD E call (slot + 1) os ⟨(d, v) :: fr, vars, hp2⟩ = some (st', l)) : runD E call slot (⟨some d, op, none, a⟩ :: os) ⟨fr, vars, hp⟩ = some (st', ⟨⟨some d, op, none, a⟩, v, .h slot :: rd, [(.h n, b)]⟩ :: l) := by
  subst hh
  have hne : ¬ n = hp.length := by omega
  rw [runD]
  simp only [wantK, he, hal, hfv, hd, List.all_cons, List.all_nil, inHp, hn, decide_true, Bool.and_self, or_true, and_self, if_true, St.wrs, St.wr, hne, if_false, St.put, hr]

/-- A store into the heap. -/
theorem runD_sh {op : K} {a : List Nat} {v : S} {rd : List L} {n : Nat} {b : Blk} {hp2 : Hp} (hal : op.allocs = false) (hfv : op.fvar = none) (he : evalK (deepE E call) slot ⟨fr, vars, hp⟩ op = some (v, rd, [(.h n, b)]))
    (hn : n < hp.length) (hh : hp.set n b = hp2) (hr : runD E call slot os ⟨fr, vars, hp2⟩ = some (st', l)) : runD E call slot (⟨none, op, none, a⟩ :: os) ⟨fr, vars, hp⟩ = some (st', ⟨⟨none, op, none, a⟩, v, rd, [(.h n, b)]⟩ :: l) := by
  subst hh
  have hne : ¬ n = hp.length := by omega
  rw [runD]
  simp only [wantK, he, hal, hfv, List.all_cons, List.all_nil, inHp, hn, decide_true, Bool.and_self, true_or, and_self, if_true, Bool.false_eq_true, if_false, St.wrs, St.wr, hne, St.put, hr]

/-- A store into a variable. -/
theorem runD_sv {op : K} {a : List Nat} {v : S} {rd : List L} {n : Nat} {b : Blk} {vars2 : Vars} (hal : op.allocs = false) (hfv : op.fvar = none) (he : evalK (deepE E call) slot ⟨fr, vars, hp⟩ op = some (v, rd, [(.v n, b)]))
    (hh : setV vars n b = vars2) (hr : runD E call slot os ⟨fr, vars2, hp⟩ = some (st', l)) : runD E call slot (⟨none, op, none, a⟩ :: os) ⟨fr, vars, hp⟩ = some (st', ⟨⟨none, op, none, a⟩, v, rd, [(.v n, b)]⟩ :: l) := by
  subst hh
  rw [runD]
  simp only [wantK, he, hal, hfv, List.all_cons, List.all_nil, inHp, Bool.and_self, true_or, and_self, if_true, Bool.false_eq_true, if_false, St.wrs, St.wr, St.put, hr]

theorem regionD_by {E : Env} {ops : List KO} {fr : Fr} {vars : Vars} {hp : Hp} {st' : St} {l : List En} {hp1 hp2 : Hp} (hD : hp ++ deads ops = hp1) (h : runD E (Call E) hp.length ops ⟨fr, vars, hp1⟩ = some (st', l)) (ho : orderOk (ancs ops []) 0 [] l = true) (ha : aftersOk 0 ops = true)
    (ht : trim st'.hp = hp2) : Run E (.dregion ops) ⟨fr, vars, hp⟩ = some (.norm, ⟨st'.fr, st'.vars, hp2⟩) := by
  subst ht hD
  rw [Run_dregion, regionD]
  simp only [h, ho, ha, and_self, if_true, Option.map_some]
end
end Go.Proofs.Ytkafliflpplpeaa.Sim
