/-
  The printed functions of the layers digest and signature and those of their references come to the same answers.
  Conditions: those in each lemma's statement.
-/
import Derived.Test.YtijmmnlhbbmhlaaXEx6
import Derived.Test.YtijmmnlhbbmhlaaSigE
namespace Go.Proofs.Ytijmmnlhbbmhlaa.SigE
set_option linter.unusedVariables false
set_option linter.unusedSimpArgs false
open Go.RowKit Go.Proofs.Ytijmmnlhbbmhlaa.Ix Go.Proofs.Ytijmmnlhbbmhlaa.XE Go.Proofs.YtijmmnlhbbmhlaaW.PrintWords Go.Proofs.YtijmmnlhbbmhlaaW.PrintLast Go.Proofs.YtijmmnlhbbmhlaaW.PrintMore

/-- both come to one answer -/
def Pr {α : Type} (g f : Nat → Option α) : Prop := ∃ r, ∃ K, ∀ k, K ≤ k → g k = some r ∧ f k = some r
theorem Pr.of {α : Type} {g f : Nat → Option α} {r : α} (h : Ev g r) (h' : Ev f r) : Pr g f := by
  obtain ⟨K, h⟩ := h
  obtain ⟨K', h'⟩ := h'
  exact ⟨r, K + K', fun k hk => ⟨h k (by omega), h' k (by omega)⟩⟩
theorem Pr.now {α : Type} (r : α) : Pr (fun _ => some r) (fun _ => some r) := ⟨r, 0, fun _ _ => ⟨rfl, rfl⟩⟩

/-! digests: equal at each number of rounds -/
theorem rotn (x n : Int) (h : Go.bits .and .u64 (IntKind.u64.wrap n) 31 = n) : bits_RotateLeft32.f x n = awardingbodyref39_rotate.f x n := by
  unfold bits_RotateLeft32.f awardingbodyref39_rotate.f
  rw [h]
theorem rot5 (x : Int) : bits_RotateLeft32.f x 5 = awardingbodyref39_rotate.f x 5 := rotn x 5 (by decide +kernel)
theorem rot7 (x : Int) : bits_RotateLeft32.f x 7 = awardingbodyref39_rotate.f x 7 := rotn x 7 (by decide +kernel)
theorem rot8 (x : Int) : bits_RotateLeft32.f x 8 = awardingbodyref39_rotate.f x 8 := rotn x 8 (by decide +kernel)
theorem rot13 (x : Int) : bits_RotateLeft32.f x 13 = awardingbodyref39_rotate.f x 13 := rotn x 13 (by decide +kernel)
theorem rot16 (x : Int) : bits_RotateLeft32.f x 16 = awardingbodyref39_rotate.f x 16 := rotn x 16 (by decide +kernel)
theorem permute_l0_eq : ∀ (k : Nat) (a b c d i : Int), digest_Permute.l0 k a b c d i = awardingbodyref39_Permute.l0 k a b c d i := by
  intro k
  induction k with
  | zero => intros; simp only [digest_Permute.l0, awardingbodyref39_Permute.l0]
  | succ k ih =>
    intro a b c d i
    simp only [digest_Permute.l0, awardingbodyref39_Permute.l0, rot5, rot7, rot8, rot13, rot16, ih]
theorem permute_eq (k : Nat) (a b c d : Int) : digest_Permute.f k a b c d = awardingbodyref39_Permute.f k a b c d := permute_l0_eq ..
theorem words_l0_eq : ∀ (k : Nat), (∀ (l : List Int) (i a b c d : Int), digest_Words.l0 k l i a b c d = awardingbodyref39_Words.l0 k l i a b c d) ∧ (∀ (l : List Int) (i x y a b c d : Int), digest_Words.j1 k l i x y a b c d = awardingbodyref39_Words.j1 k l i x y a b c d) := by
  intro k
  induction k with
  | zero => exact ⟨by intros; simp only [digest_Words.l0, awardingbodyref39_Words.l0], by intros; simp only [digest_Words.j1, awardingbodyref39_Words.j1]⟩
  | succ k ih =>
    obtain ⟨h1, h2⟩ := ih
    constructor
    · intro l i a b c d
      simp only [digest_Words.l0, awardingbodyref39_Words.l0, h2, permute_eq]
    · intro l i x y a b c d
      simp only [digest_Words.j1, awardingbodyref39_Words.j1, h1, permute_eq]
theorem words_eq (k : Nat) (t : Int) (l : List Int) : digest_Words.f k t l = awardingbodyref39_Words.f k t l := (words_l0_eq k).1 ..
theorem numbers_l0_eq : ∀ (k : Nat) (t : Int) (acc l : List Int) (i : Int), digest_Numbers.l0 k t acc l (l.length : Int) i = awardingbodyref39_Numbers.l0 k t l acc i := by
  intro k
  induction k with
  | zero => intros; simp only [digest_Numbers.l0, awardingbodyref39_Numbers.l0]
  | succ k ih =>
    intro t acc l i
    simp only [digest_Numbers.l0, awardingbodyref39_Numbers.l0, words_eq]
    by_cases h : i < (l.length : Int)
    · simp only [if_pos h, ih]
    · simp only [if_neg h]
theorem numbers_eq (k : Nat) (t : Int) (l : List Int) : digest_Numbers.f k t l = awardingbodyref39_Numbers.f k t l := numbers_l0_eq ..
theorem w_step (k : Nat) (t : Int) (l : List Int) (i a b c d : Int) (h0 : 0 ≤ i) (h4 : i < 4) (hl : l.length < 1000) : signature_word.l0 (k + 1) t l i a b c d = signature_word.l0 k t (l ++ [wrap64 (ix4 i a b c d)]) (i + 1) a b c d := by
  simp only [signature_word.l0]
  rw [if_pos h4, if_pos h0, if_pos (by omega), w64 (x := i + 1) (by omega) (by omega)]
theorem n_step (k : Nat) (l : List Int) (i a b c d : Int) (h0 : 0 ≤ i) (h4 : i < 4) (hl : l.length < 1000) : awardingbodyref41_numbers.l0 (k + 1) l i a b c d = awardingbodyref41_numbers.l0 k (l ++ [wrap64 (ix4 i a b c d)]) (i + 1) a b c d := by
  simp only [awardingbodyref41_numbers.l0]
  rw [if_pos h4, if_pos h0, if_pos (by omega), w64 (x := i + 1) (by omega) (by omega)]
def four (l : List Int) (a b c d : Int) : List Int := l ++ [wrap64 (ix4 0 a b c d)] ++ [wrap64 (ix4 (0 + 1) a b c d)] ++ [wrap64 (ix4 (0 + 1 + 1) a b c d)] ++ [wrap64 (ix4 (0 + 1 + 1 + 1) a b c d)]
theorem four_length (l : List Int) (a b c d : Int) : (four l a b c d).length = l.length + 4 := by simp [four]
theorem word_five (k : Nat) (t : Int) (l : List Int) (a b c d : Int) (hl : l.length < 100) : signature_word.f (k + 1 + 1 + 1 + 1 + 1) t a b c d l = (digest_Numbers.f k t (four l a b c d)).bind fun bt => some (wrap64 bt.1) := by
  unfold signature_word.f
  rw [w_step _ _ _ _ _ _ _ _ (by omega) (by omega) (by omega), w_step _ _ _ _ _ _ _ _ (by omega) (by omega) (by simp; omega), w_step _ _ _ _ _ _ _ _ (by omega) (by omega) (by simp; omega), w_step _ _ _ _ _ _ _ _ (by omega) (by omega) (by simp; omega)]
  simp only [signature_word.l0]
  rw [if_neg (by omega)]
  rfl
theorem numbers_five (k : Nat) (l : List Int) (a b c d : Int) (hl : l.length < 100) : awardingbodyref41_numbers.f (k + 1 + 1 + 1 + 1 + 1) a b c d l = some (four l a b c d) := by
  unfold awardingbodyref41_numbers.f
  rw [n_step _ _ _ _ _ _ _ (by omega) (by omega) (by omega), n_step _ _ _ _ _ _ _ (by omega) (by omega) (by simp; omega), n_step _ _ _ _ _ _ _ (by omega) (by omega) (by simp; omega), n_step _ _ _ _ _ _ _ (by omega) (by omega) (by simp; omega)]
  simp only [awardingbodyref41_numbers.l0]
  rw [if_neg (by omega)]
  rfl
/-- a word of the digest: one value, from both -/
theorem word_pair (t a b c d : Int) (l : List Int) (ht : U t) (hl : l.length < 100) : ∃ v : Int, U v ∧ ∃ K, ∀ k, K ≤ k → signature_word.f k t a b c d l = some v ∧ ∃ (L : List Int) (x y z : Int), awardingbodyref41_numbers.f k a b c d l = some L ∧ awardingbodyref39_Numbers.f k t L = some (v, x, y, z) := by
  obtain ⟨⟨v, x, y, z⟩, hr, K, h⟩ := numbers_ev t (four l a b c d) ht (by rw [four_length]; omega)
  have hv : U v := hr.1
  refine ⟨v, hv, K + 5, fun k hk => ?_⟩
  obtain ⟨k, rfl⟩ : ∃ m, k = m + 1 + 1 + 1 + 1 + 1 := ⟨k - 5, by omega⟩
  refine ⟨?_, four l a b c d, x, y, z, numbers_five k l a b c d hl, ?_⟩
  · have hh : digest_Numbers.f k t (four l a b c d) = some (v, x, y, z) := h k (by omega)
    rw [word_five k t l a b c d hl, hh, Option.bind_some]
    unfold U at hv
    show some (wrap64 v) = some v
    rw [w64 (by omega) (by omega)]
  · rw [← numbers_eq]; exact h _ (by omega)
theorem chal_pair (r p a b c d : Int) : ∃ v : Int, 0 ≤ v ∧ v < 1073741789 ∧ ∃ K, ∀ k, K ≤ k → signature_Challenge.f k r p a b c d = some v ∧ awardingbodyref41_Challenge.f k r p a b c d = some v := by
  obtain ⟨v, hv, K, h⟩ := word_pair 3 a b c d [r, p] ⟨by omega, by omega⟩ (by simp)
  unfold U at hv
  refine ⟨Int.tmod v 1073741789, ?_, ?_, K, fun k hk => ?_⟩
  · rw [Int.tmod_eq_emod_of_nonneg hv.1]; omega
  · rw [Int.tmod_eq_emod_of_nonneg hv.1]; omega
  obtain ⟨h1, L, x, y, z, h2, h3⟩ := h k hk
  constructor
  · unfold signature_Challenge.f
    rw [h1, Option.bind_some]
  · unfold awardingbodyref41_Challenge.f
    rw [h2, Option.bind_some, h3, Option.bind_some]
    unfold awardingbodyref41_first.f
    rw [Option.bind_some]
    show some (Int.tmod (wrap64 v) 1073741789) = _
    rw [w64 (by omega) (by omega)]

/-! powers -/
theorem power_l0' : ∀ (d k X N O : Nat), X < 2147483579 → O < 2147483579 → N < 2 ^ d → d ≤ 63 → d < k →
    signature_Power.l0 k (X : Int) (N : Int) (O : Int) = some ((O * X ^ N % 2147483579 : Nat) : Int) := by
  intro d
  induction d with
  | zero =>
    intro k X N O hX hO hN hd hk
    obtain ⟨k, rfl⟩ : ∃ m, k = m + 1 := ⟨k - 1, by omega⟩
    simp only [signature_Power.l0]
    have : N = 0 := by simpa using hN
    subst this
    rw [if_neg (by omega), Nat.pow_zero, Nat.mul_one, Nat.mod_eq_of_lt hO]
  | succ d ih =>
    intro k X N O hX hO hN hd hk
    obtain ⟨k, rfl⟩ : ∃ m, k = m + 1 := ⟨k - 1, by omega⟩
    simp only [signature_Power.l0]
    rcases Nat.eq_zero_or_pos N with h0 | h0
    · subst h0
      rw [if_neg (by omega), Nat.pow_zero, Nat.mul_one, Nat.mod_eq_of_lt hO]
    · have h62 : 2 ^ (d + 1) ≤ 2 ^ 63 := Nat.pow_le_pow_right (by decide) hd
      rw [if_pos (by omega), bits_one N (by omega), mulP hX hX, mulP hO hX, show ((N : Int) / 2) = ((N / 2 : Nat) : Int) by omega]
      have hN2 : N / 2 < 2 ^ d := by rw [Nat.pow_succ] at hN; omega
      rw [ih k _ _ _ (Nat.mod_lt _ (by decide)) (Nat.mod_lt _ (by decide)) hN2 (by omega) (by omega), ih k _ _ _ (Nat.mod_lt _ (by decide)) hO hN2 (by omega) (by omega), step_odd, step_even]
      rcases Nat.mod_two_eq_zero_or_one N with h | h
      · rw [if_neg (by omega), show 2 * (N / 2) = N by omega]
      · rw [if_pos (by omega), show 2 * (N / 2) + 1 = N by omega]
theorem rpower_f : ∀ (d k X N : Nat), X < 2147483579 → N < 2 ^ d → d ≤ 63 → 2 * d + 2 ≤ k → awardingbodyref41_Power.f k (X : Int) (N : Int) = some ((X ^ N % 2147483579 : Nat) : Int) := by
  intro d
  induction d with
  | zero =>
    intro k X N hX hN hd hk
    obtain ⟨k, rfl⟩ : ∃ m, k = m + 1 + 1 := ⟨k - 2, by omega⟩
    have : N = 0 := by simpa using hN
    subst this
    simp only [awardingbodyref41_Power.f, awardingbodyref41_Power.j0]
    rw [if_neg (by omega), if_neg (by omega), if_neg (by simp), if_pos (by rfl)]
    rw [Nat.pow_zero]
    rfl
  | succ d ih =>
    intro k X N hX hN hd hk
    obtain ⟨k, rfl⟩ : ∃ m, k = m + 1 + 1 := ⟨k - 2, by omega⟩
    have h62 : 2 ^ (d + 1) ≤ 2 ^ 63 := Nat.pow_le_pow_right (by decide) hd
    simp only [awardingbodyref41_Power.f, awardingbodyref41_Power.j0]
    rw [if_neg (by omega), if_neg (by omega), if_neg (by simp)]
    rcases Nat.eq_zero_or_pos N with h0 | h0
    · subst h0
      rw [if_pos (by rfl), Nat.pow_zero]; rfl
    · have hN2 : N / 2 < 2 ^ d := by rw [Nat.pow_succ] at hN; omega
      rw [if_neg (by omega), mulP hX hX, Int.tdiv_eq_ediv_of_nonneg (by omega), show ((N : Int) / 2) = ((N / 2 : Nat) : Int) by omega, w64 (by omega) (by omega),
        ih k _ _ (Nat.mod_lt _ (by decide)) hN2 (by omega) (by omega), Option.bind_some, Int.tmod_eq_emod_of_nonneg (by omega), mulP (Nat.mod_lt _ (by decide)) hX]
      have e1 := step_even 1 X (N / 2) 2147483579
      rw [Nat.one_mul, Nat.one_mul] at e1
      rw [e1]
      rcases Nat.mod_two_eq_zero_or_one N with h | h
      · rw [if_neg (by omega), show 2 * (N / 2) = N by omega]
      · rw [if_pos (by omega), Nat.mod_mul_mod, ← Nat.pow_succ, show (2 * (N / 2)).succ = N by omega]
theorem in_of (x a b : Int) : signature_in.f x a b = some (decide (a ≤ x ∧ x ≤ b)) := by
  unfold signature_in.f
  by_cases h : a ≤ x
  · rw [if_pos h]; simp [h]
  · rw [if_neg h]; simp [h]
theorem power_pair (x n : Int) (hn : n ≤ 9223372036854775807) : ∃ v : Int, 0 ≤ v ∧ v < 2147483579 ∧ ∀ k, 200 ≤ k → signature_Power.f k x n = some v ∧ awardingbodyref41_Power.f k x n = some v := by
  by_cases hx : 0 ≤ x ∧ x < 2147483579
  · by_cases h0 : n < 0
    · refine ⟨0, by omega, by omega, fun k hk => ⟨?_, ?_⟩⟩
      · obtain ⟨k, rfl⟩ : ∃ m, k = m + 1 := ⟨k - 1, by omega⟩
        unfold signature_Power.f
        rw [in_of, Option.bind_some, if_pos (by simp; omega)]
        simp only [signature_Power.j0]
        rw [if_pos (by simpa using h0)]
      · obtain ⟨k, rfl⟩ : ∃ m, k = m + 1 + 1 := ⟨k - 2, by omega⟩
        simp only [awardingbodyref41_Power.f, awardingbodyref41_Power.j0]
        rw [if_neg (by omega), if_neg (by omega), if_pos (by simpa using h0)]
    · obtain ⟨X, rfl⟩ := Int.eq_ofNat_of_zero_le hx.1
      obtain ⟨N, rfl⟩ := Int.eq_ofNat_of_zero_le (show 0 ≤ n by omega)
      have hX : X < 2147483579 := by omega
      have hN : N < 2 ^ 63 := by simpa using (show N < 9223372036854775808 by omega)
      have hm : X ^ N % 2147483579 < 2147483579 := Nat.mod_lt _ (by decide)
      refine ⟨((X ^ N % 2147483579 : Nat) : Int), by omega, by omega, fun k hk => ⟨?_, rpower_f 63 k X N hX hN (by omega) (by omega)⟩⟩
      obtain ⟨k, rfl⟩ : ∃ m, k = m + 1 := ⟨k - 1, by omega⟩
      unfold signature_Power.f
      rw [in_of, Option.bind_some, if_pos (by simp; omega)]
      simp only [signature_Power.j0]
      rw [if_neg (by simp)]
      have := power_l0' 63 k X N 1 hX (by decide) hN (by omega) (by omega)
      rw [Nat.one_mul] at this
      exact this
  · refine ⟨0, by omega, by omega, fun k hk => ⟨?_, ?_⟩⟩
    · obtain ⟨k, rfl⟩ : ∃ m, k = m + 1 := ⟨k - 1, by omega⟩
      unfold signature_Power.f
      rw [in_of, Option.bind_some, if_neg (by simp; omega)]
      simp only [signature_Power.j0, if_true]
    · obtain ⟨k, rfl⟩ : ∃ m, k = m + 1 + 1 := ⟨k - 2, by omega⟩
      simp only [awardingbodyref41_Power.f, awardingbodyref41_Power.j0]
      by_cases h1 : x < 0
      · rw [if_pos h1]; simp only [if_true]
      · rw [if_neg h1, if_pos (by omega)]; simp only [if_true]

/-! the rest of layer 41 -/
theorem valid_sig (s : Int) : signature_Valid.f s = some (decide (1 ≤ s ∧ s < 1073741789)) := by
  unfold signature_Valid.f
  rw [in_of, Option.bind_some]
  congr 1
  exact decide_eq_decide.mpr ⟨fun h => ⟨h.1, by omega⟩, fun h => ⟨h.1, by omega⟩⟩
theorem valid_ref (s : Int) : awardingbodyref41_Valid.f s = some (decide (1 ≤ s ∧ s < 1073741789)) := by
  unfold awardingbodyref41_Valid.f
  by_cases h : 1 ≤ s
  · rw [if_pos h]; simp [h]
  · rw [if_neg h]; simp [h]
theorem public_pair (s : Int) : ∃ (p e : Int), (e = 0 ↔ 1 ≤ s ∧ s < 1073741789) ∧ ∀ k, 200 ≤ k → signature_Public.f k s = some (p, e) ∧ awardingbodyref41_Public.f k s = some (p, e) := by
  unfold signature_Public.f awardingbodyref41_Public.f
  by_cases h : 1 ≤ s ∧ s < 1073741789
  · obtain ⟨v, -, -, hv⟩ := power_pair 4 s (by omega)
    refine ⟨v, 0, ⟨fun _ => h, fun _ => rfl⟩, fun k hk => ?_⟩
    rw [valid_sig, valid_ref, Option.bind_some, Option.bind_some, if_pos (by simpa using h), if_pos (by simpa using h), (hv k hk).1, (hv k hk).2]
    exact ⟨rfl, rfl⟩
  · refine ⟨0, 2, ⟨fun z => absurd z (by decide), fun z => absurd z h⟩, fun k hk => ?_⟩
    rw [valid_sig, valid_ref, Option.bind_some, Option.bind_some, if_neg (by simpa using h), if_neg (by simpa using h)]
    exact ⟨rfl, rfl⟩
theorem sign_pair (s a b c d : Int) : ∃ (r q e : Int), ∃ K, ∀ k, K ≤ k → signature_Sign.f k s a b c d = some (r, q, e) ∧ awardingbodyref41_Sign.f k s a b c d = some (r, q, e) ∧ -9223372036854775808 ≤ q ∧ q ≤ 9223372036854775807 := by
  obtain ⟨p, e, he, hp⟩ := public_pair s
  by_cases h : e = 0
  · obtain ⟨t, ht, K1, h1⟩ := word_pair 4 a b c d [s] ⟨by omega, by omega⟩ (by simp)
    unfold U at ht
    obtain ⟨r, -, -, hr⟩ := power_pair 4 (wrap64 (1 + (Int.tmod t 1073741788))) (by unfold wrap64; omega)
    obtain ⟨q, q0, q1, K2, h2⟩ := chal_pair r p a b c d
    refine ⟨r, Int.tmod (wrap64 ((wrap64 (1 + (Int.tmod t 1073741788))) + (wrap64 (q * s)))) 1073741789, 0, K1 + K2 + 200, fun k hk => ?_⟩
    obtain ⟨w1, L, x, y, z, w2, w3⟩ := h1 k (by omega)
    obtain ⟨c1, c2⟩ := h2 k (by omega)
    obtain ⟨r1, r2⟩ := hr k (by omega)
    obtain ⟨p1, p2⟩ := hp k (by omega)
    refine ⟨?_, ?_, ?_⟩
    · unfold signature_Sign.f
      rw [p1, Option.bind_some, if_pos h, w1, Option.bind_some, r1, Option.bind_some, c1, Option.bind_some]
    · unfold awardingbodyref41_Sign.f
      rw [p2, Option.bind_some, if_pos h, w2, Option.bind_some, w3, Option.bind_some]
      unfold awardingbodyref41_first.f
      rw [Option.bind_some]
      simp only [w64 (x := t) (by omega) (by omega)]
      rw [r2, Option.bind_some, c2, Option.bind_some]
    · generalize wrap64 ((wrap64 (1 + (Int.tmod t 1073741788))) + (wrap64 (q * s))) = y
      have u := Int.tmod_lt_of_pos y (show (0 : Int) < 1073741789 by decide)
      have l : -1073741789 < Int.tmod y 1073741789 := by
        have z := Int.tmod_lt_of_pos (-y) (show (0 : Int) < 1073741789 by decide)
        rw [Int.neg_tmod] at z; omega
      omega
  · refine ⟨0, 0, e, 200, fun k hk => ?_⟩
    obtain ⟨p1, p2⟩ := hp k (by omega)
    refine ⟨?_, ?_, by omega, by omega⟩
    · unfold signature_Sign.f
      rw [p1, Option.bind_some, if_neg h]
    · unfold awardingbodyref41_Sign.f
      rw [p2, Option.bind_some, if_neg h]
theorem member_pair (x : Int) : ∃ m : Bool, ∀ k, 200 ≤ k → signature_member.f k x = some m ∧ awardingbodyref41_member.f k x = some m := by
  unfold signature_member.f awardingbodyref41_member.f
  by_cases h : 1 ≤ x ∧ x < 2147483579
  · obtain ⟨v, -, -, hv⟩ := power_pair x 1073741789 (by omega)
    refine ⟨v == 1, fun k hk => ?_⟩
    rw [in_of, Option.bind_some, if_pos (by simp; omega), if_pos (by omega), if_pos h.2, (hv k hk).1, (hv k hk).2]
    exact ⟨rfl, rfl⟩
  · refine ⟨false, fun k hk => ?_⟩
    rw [in_of, Option.bind_some, if_neg (by simp; omega)]
    refine ⟨rfl, ?_⟩
    by_cases h1 : x ≥ 1
    · rw [if_pos h1, if_neg (by omega)]
    · rw [if_neg h1]
theorem vj0 (k : Nat) (x a b c d r s : Int) : signature_Verify.j0 (k + 1) x true a b c d r s = some false := by simp only [signature_Verify.j0, if_true]
theorem rvj0 (k : Nat) (x a b c d r s : Int) : awardingbodyref41_Verify.j0 (k + 1) x true a b c d r s = some false := by simp only [awardingbodyref41_Verify.j0, if_true]
theorem verify_pair (x a b c d r s : Int) (hs : s ≤ 9223372036854775807) : ∃ v : Bool, ∃ K, ∀ k, K ≤ k → signature_Verify.f k x a b c d r s = some v ∧ awardingbodyref41_Verify.f k x a b c d r s = some v := by
  obtain ⟨m1, hm1⟩ := member_pair x
  obtain ⟨m2, hm2⟩ := member_pair r
  obtain ⟨q, q0, q1, K, hq⟩ := chal_pair r x a b c d
  obtain ⟨u, -, -, hu⟩ := power_pair 4 s hs
  obtain ⟨w, -, -, hw⟩ := power_pair x q (by omega)
  have fin : ∃ v : Bool, ∃ K, ∀ k, K ≤ k → signature_Verify.j0 k x (!(decide (0 ≤ s ∧ s ≤ 1073741788))) a b c d r s = some v ∧ (if s < 0 then (awardingbodyref41_Verify.j0 k x true a b c d r s) else (awardingbodyref41_Verify.j0 k x (decide (s ≥ 1073741789)) a b c d r s)) = some v := by
    by_cases h : 0 ≤ s ∧ s ≤ 1073741788
    · refine ⟨u == Int.tmod (wrap64 (r * w)) 2147483579, K + 201, fun k hk => ?_⟩
      obtain ⟨k, rfl⟩ : ∃ m, k = m + 1 := ⟨k - 1, by omega⟩
      rw [if_neg (by omega), decide_eq_true h, decide_eq_false (by omega)]
      simp only [signature_Verify.j0, awardingbodyref41_Verify.j0]
      rw [if_neg (by simp), if_neg (by simp), (hu k (by omega)).1, (hu k (by omega)).2, Option.bind_some, Option.bind_some, (hq k (by omega)).1, (hq k (by omega)).2, Option.bind_some, Option.bind_some, (hw k (by omega)).1, (hw k (by omega)).2, Option.bind_some]
      exact ⟨rfl, rfl⟩
    · refine ⟨false, 1, fun k hk => ?_⟩
      obtain ⟨k, rfl⟩ : ∃ m, k = m + 1 := ⟨k - 1, by omega⟩
      rw [decide_eq_false h]
      refine ⟨vj0 .., ?_⟩
      by_cases h0 : s < 0
      · rw [if_pos h0, rvj0]
      · rw [if_neg h0, decide_eq_true (by omega), rvj0]
  obtain ⟨v, K', hv⟩ := fin
  unfold signature_Verify.f awardingbodyref41_Verify.f
  cases m1 with
  | false =>
    refine ⟨false, 201, fun k hk => ?_⟩
    obtain ⟨k, rfl⟩ : ∃ m, k = m + 1 := ⟨k - 1, by omega⟩
    rw [(hm1 _ (by omega)).1, (hm1 _ (by omega)).2, Option.bind_some, Option.bind_some, if_neg (by simp), if_neg (by simp), vj0, rvj0]
    exact ⟨rfl, rfl⟩
  | true =>
    cases m2 with
    | false =>
      refine ⟨false, 201, fun k hk => ?_⟩
      obtain ⟨k, rfl⟩ : ∃ m, k = m + 1 := ⟨k - 1, by omega⟩
      rw [(hm1 _ (by omega)).1, (hm1 _ (by omega)).2, Option.bind_some, Option.bind_some, if_pos rfl, if_pos rfl, (hm2 _ (by omega)).1, (hm2 _ (by omega)).2, Option.bind_some, Option.bind_some, if_neg (by simp), if_neg (by simp), vj0, rvj0]
      exact ⟨rfl, rfl⟩
    | true =>
      refine ⟨v, K' + 200, fun k hk => ?_⟩
      rw [(hm1 _ (by omega)).1, (hm1 _ (by omega)).2, Option.bind_some, Option.bind_some, if_pos rfl, if_pos rfl, (hm2 _ (by omega)).1, (hm2 _ (by omega)).2, Option.bind_some, Option.bind_some, if_pos rfl, if_pos rfl, in_of, Option.bind_some]
      exact hv k (by omega)
end Go.Proofs.Ytijmmnlhbbmhlaa.SigE
