/-
  Fermat's little theorem, and that 2147483579 and 1073741789 are primes (plain Lean).
  Conditions: none.
-/
namespace Go.Proofs.Ytijmmnlhbbmhlaa.FM

/-- No number from lo to lo + 2^k - 1 divides n. -/
def chk (n : Nat) : Nat → Nat → Bool
  | 0, lo => n % lo != 0
  | k + 1, lo => chk n k lo && chk n k (lo + 2 ^ k)
theorem chk_spec (n : Nat) : ∀ k lo, chk n k lo = true → ∀ d, lo ≤ d → d < lo + 2 ^ k → n % d ≠ 0 := by
  intro k
  induction k with
  | zero =>
    intro lo h d h1 h2
    have : d = lo := by simp at h2; omega
    subst this
    simpa [chk] using h
  | succ k ih =>
    intro lo h d h1 h2
    simp only [chk, Bool.and_eq_true] at h
    rcases Nat.lt_or_ge d (lo + 2 ^ k) with h3 | h3
    · exact ih lo h.1 d h1 h3
    · exact ih _ h.2 d h3 (by rw [Nat.pow_succ] at h2; omega)

def Pr (n : Nat) : Prop := 2 ≤ n ∧ ∀ d, d ∣ n → d = 1 ∨ d = n

theorem pr_of_chk {n k : Nat} (h2 : 2 ≤ n) (h : chk n k 2 = true) (hs : n < 2 ^ k * 2 ^ k) : Pr n := by
  refine ⟨h2, fun d hd => ?_⟩
  obtain ⟨e, rfl⟩ := hd
  have hs' := chk_spec _ k 2 h
  rcases Nat.lt_or_ge d (2 ^ k) with h3 | h3
  · rcases Nat.lt_or_ge d 2 with h4 | h4
    · have : d = 0 ∨ d = 1 := by omega
      rcases this with rfl | rfl
      · simp at h2
      · exact .inl rfl
    · exact absurd (Nat.mul_mod_right d e) (hs' d h4 (by omega))
  · rcases Nat.lt_or_ge e (2 ^ k) with h5 | h5
    · rcases Nat.lt_or_ge e 2 with h4 | h4
      · have : e = 0 ∨ e = 1 := by omega
        rcases this with rfl | rfl
        · simp at h2
        · right; simp
      · exact absurd (Nat.mul_mod_left d e) (hs' e h4 (by omega))
    · have := Nat.mul_le_mul h3 h5
      omega

theorem Pr.coprime {p a : Nat} (hp : Pr p) (h : ¬ p ∣ a) : Nat.Coprime p a := by
  rcases hp.2 _ (Nat.gcd_dvd_left p a) with h1 | h1
  · exact h1
  · exact absurd (h1 ▸ Nat.gcd_dvd_right p a) h
theorem Pr.euclid {p a b : Nat} (hp : Pr p) (h : p ∣ a * b) : p ∣ a ∨ p ∣ b := by
  rcases Classical.em (p ∣ a) with ha | ha
  · exact .inl ha
  · exact .inr ((hp.coprime ha).dvd_of_dvd_mul_left h)

/-! the binomial theorem -/
def ch : Nat → Nat → Nat
  | _, 0 => 1
  | 0, _ + 1 => 0
  | n + 1, k + 1 => ch n k + ch n (k + 1)
theorem ch_zero (n : Nat) : ch n 0 = 1 := by cases n <;> rfl
theorem ch_big : ∀ n k, n < k → ch n k = 0 := by
  intro n
  induction n with
  | zero => intro k h; cases k with | zero => omega | succ k => rfl
  | succ n ih => intro k h; cases k with | zero => omega | succ k => simp only [ch]; rw [ih k (by omega), ih (k + 1) (by omega)]
theorem ch_self : ∀ n, ch n n = 1 := by
  intro n
  induction n with
  | zero => rfl
  | succ n ih => simp only [ch]; rw [ih, ch_big n (n + 1) (by omega)]
theorem ch_mul : ∀ n k, (k + 1) * ch (n + 1) (k + 1) = (n + 1) * ch n k := by
  intro n
  induction n with
  | zero =>
    intro k
    cases k with
    | zero => rfl
    | succ k => simp [ch]
  | succ n ih =>
    intro k
    cases k with
    | zero =>
      have := ih 0
      simp only [ch, ch_zero] at this ⊢
      omega
    | succ k =>
      have h1 := ih k
      have h2 := ih (k + 1)
      have e : ch (n + 1 + 1) (k + 1 + 1) = ch (n + 1) (k + 1) + ch (n + 1) (k + 1 + 1) := rfl
      have e2 : ch (n + 1) (k + 1) = ch n k + ch n (k + 1) := rfl
      rw [e]
      grind
def bs (n a : Nat) : Nat → Nat
  | 0 => ch n 0
  | m + 1 => bs n a m + ch n (m + 1) * a ^ (m + 1)
theorem bs_succ (n a : Nat) : ∀ m, bs (n + 1) a (m + 1) = bs n a (m + 1) + a * bs n a m := by
  intro m
  induction m with
  | zero => simp [bs, ch, ch_zero]; grind
  | succ m ih =>
    rw [show bs (n + 1) a (m + 1 + 1) = bs (n + 1) a (m + 1) + ch (n + 1) (m + 1 + 1) * a ^ (m + 1 + 1) from rfl, ih]
    rw [show bs n a (m + 1 + 1) = bs n a (m + 1) + ch n (m + 1 + 1) * a ^ (m + 1 + 1) from rfl]
    rw [show ch (n + 1) (m + 1 + 1) = ch n (m + 1) + ch n (m + 1 + 1) from rfl]
    rw [show bs n a (m + 1) = bs n a m + ch n (m + 1) * a ^ (m + 1) from rfl]
    grind
theorem binomial (a : Nat) : ∀ n, (a + 1) ^ n = bs n a n := by
  intro n
  induction n with
  | zero => rfl
  | succ n ih =>
    rw [bs_succ, Nat.pow_succ, ih]
    rw [show bs n a (n + 1) = bs n a n + ch n (n + 1) * a ^ (n + 1) from rfl, ch_big n (n + 1) (by omega)]
    grind

theorem pr_dvd_ch {p : Nat} (hp : Pr p) (k : Nat) (h0 : 0 < k) (h1 : k < p) : p ∣ ch p k := by
  obtain ⟨k, rfl⟩ : ∃ j, k = j + 1 := ⟨k - 1, by omega⟩
  obtain ⟨n, rfl⟩ : ∃ n, p = n + 1 := ⟨p - 1, by omega⟩
  have h := ch_mul n k
  have hd : (n + 1) ∣ (k + 1) * ch (n + 1) (k + 1) := ⟨_, h⟩
  rcases hp.euclid hd with h2 | h2
  · have := Nat.le_of_dvd (by omega) h2
    omega
  · exact h2
theorem bs_mod {p : Nat} (hp : Pr p) (a : Nat) : ∀ m, m < p → bs p a m % p = 1 % p := by
  intro m
  induction m with
  | zero => intro _; simp [bs, ch_zero]
  | succ m ih =>
    intro h
    obtain ⟨c, hc⟩ := pr_dvd_ch hp (m + 1) (by omega) h
    simp only [bs]
    rw [hc, Nat.mul_assoc, Nat.add_mul_mod_self_left]
    exact ih (by omega)
theorem fermat {p : Nat} (hp : Pr p) : ∀ a, a ^ p % p = a % p := by
  intro a
  induction a with
  | zero =>
    have := hp.1
    rw [Nat.zero_pow (by omega)]
  | succ a ih =>
    rw [binomial]
    obtain ⟨n, hn⟩ : ∃ n, p = n + 1 := ⟨p - 1, by have := hp.1; omega⟩
    have e : bs p a p = bs p a n + ch p p * a ^ p := by
      conv => lhs; rw [hn]
      rw [hn]; rfl
    rw [e, ch_self, Nat.one_mul, Nat.add_mod, bs_mod hp a n (by omega), ih, ← Nat.add_mod, Nat.add_comm]
theorem fermat' {p : Nat} (hp : Pr p) (a : Nat) (h : ¬ p ∣ a) : a ^ (p - 1) % p = 1 := by
  have hf := fermat hp a
  have h2 := hp.1
  obtain ⟨n, rfl⟩ : ∃ n, p = n + 1 := ⟨p - 1, by omega⟩
  simp only [Nat.add_sub_cancel]
  have ha : 0 < a := by
    rcases Nat.eq_zero_or_pos a with rfl | h
    · exact absurd (Nat.dvd_zero _) h
    · exact h
  have hge : 1 ≤ a ^ n := Nat.one_le_pow _ _ ha
  have hd : (n + 1) ∣ a * (a ^ n - 1) := by
    have : (a ^ (n + 1) - a) % (n + 1) = 0 := Nat.sub_mod_eq_zero_of_mod_eq hf
    have e : a ^ (n + 1) - a = a * (a ^ n - 1) := by
      rw [Nat.pow_succ, Nat.mul_sub, Nat.mul_one, Nat.mul_comm]
    rw [e] at this
    exact Nat.dvd_of_mod_eq_zero this
  rcases hp.euclid hd with h3 | h3
  · exact absurd h3 h
  · obtain ⟨c, hc⟩ := h3
    have : a ^ n = 1 + (n + 1) * c := by omega
    rw [this, Nat.add_mul_mod_self_left, Nat.mod_eq_of_lt (by omega)]

def P : Nat := 2147483579
def Q : Nat := 1073741789
theorem prP : Pr P := pr_of_chk (k := 16) (by decide) (by decide +kernel) (by decide)
theorem prQ : Pr Q := pr_of_chk (k := 15) (by decide) (by decide +kernel) (by decide)
end Go.Proofs.Ytijmmnlhbbmhlaa.FM
