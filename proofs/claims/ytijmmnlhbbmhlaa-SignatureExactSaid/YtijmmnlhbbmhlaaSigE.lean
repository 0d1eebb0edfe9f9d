/-
  What the printed functions of the layers digest and signature come to: digests end in words, powers are powers modulo 2147483579, signatures and their check are sums of exponents.
  Conditions: those in each lemma's statement.
-/
import Derived.Test.YtijmmnlhbbmhlaaXEx6
import Derived.Test.YtijmmnlhbbmhlaaFermat
namespace Go.Proofs.Ytijmmnlhbbmhlaa.SigE
set_option linter.unusedVariables false
open Go.RowKit Go.Proofs.Ytijmmnlhbbmhlaa.Ix Go.Proofs.Ytijmmnlhbbmhlaa.XE Go.Proofs.YtijmmnlhbbmhlaaW.PrintWords Go.Proofs.YtijmmnlhbbmhlaaW.PrintLast Go.Proofs.YtijmmnlhbbmhlaaW.PrintMore

theorem wf64 {x : Int} (h : (Lit.int .i64 x).wf = true) : -9223372036854775808 ≤ x ∧ x ≤ 9223372036854775807 := by
  simp [Lit.wf, IntKind.min, IntKind.max, IntKind.signed, IntKind.bits] at h
  omega
theorem wfu32 {x : Int} (h : (Lit.int .u32 x).wf = true) : 0 ≤ x ∧ x < 4294967296 := by
  simp [Lit.wf, IntKind.min, IntKind.max, IntKind.signed, IntKind.bits] at h
  omega
theorem bits_u32 (op : BinOp) (x y : Int) : 0 ≤ Go.bits op .u32 x y ∧ Go.bits op .u32 x y < 4294967296 := by
  unfold Go.bits
  split <;> (rw [IntKind.wrap_u32]; omega)
theorem wrap_u64 (n : Int) : IntKind.u64.wrap n = n % 18446744073709551616 := by simp [IntKind.wrap, IntKind.bits, IntKind.signed]
theorem bits_u64 (op : BinOp) (x y : Int) : 0 ≤ Go.bits op .u64 x y := by
  unfold Go.bits
  split <;> (rw [wrap_u64]; omega)
theorem bits_one (N : Nat) (h : N < 9223372036854775808) : Go.bits .and .i64 (N : Int) 1 = ((N % 2 : Nat) : Int) := by
  have := bits_mask .i64 63 (by decide) (fun n h0 h1 => by rw [IntKind.wrap_i64]; omega) 1 (by decide) (N : Int) (by omega) (by omega)
  simpa using this
theorem w64 {x : Int} (h0 : -9223372036854775808 ≤ x) (h1 : x ≤ 9223372036854775807) : wrap64 x = x := by unfold wrap64; omega

theorem mod_f (x n : Int) (hx : -9223372036854775808 ≤ x ∧ x ≤ 9223372036854775807) (h0 : 0 < n) (h1 : n ≤ 4611686018427387904) : awardingbodymark_Mod.f x n = some (x % n) := by
  unfold awardingbodymark_Mod.f
  rw [if_neg (by omega)]
  have e := Int.emod_nonneg x (show n ≠ 0 by omega)
  have l := Int.emod_lt_of_pos x h0
  have ht : Int.tmod x n = x % n ∨ Int.tmod x n = x % n - n := by
    rw [Int.tmod_eq_emod]
    split
    · left; omega
    · right; rw [Int.natAbs_of_nonneg (by omega)]
  rcases ht with ht | ht
  · rw [ht, w64 (by omega) (by omega), Int.tmod_eq_emod_of_nonneg (by omega), Int.add_emod_right, Int.emod_emod_of_dvd _ (Int.dvd_refl n)]
  · rw [ht, show x % n - n + n = x % n by omega, w64 (by omega) (by omega), Int.tmod_eq_emod_of_nonneg (by omega), Int.emod_emod_of_dvd _ (Int.dvd_refl n)]

/-! powers -/
theorem mulP {a b : Nat} (ha : a < 2147483579) (hb : b < 2147483579) : Int.tmod (wrap64 ((a : Int) * (b : Int))) 2147483579 = ((a * b % 2147483579 : Nat) : Int) := by
  have h : a * b ≤ 2147483579 * 2147483579 := Nat.mul_le_mul (by omega) (by omega)
  have e : (a : Int) * (b : Int) = ((a * b : Nat) : Int) := by simp
  rw [e, w64 (by omega) (by omega), Int.tmod_eq_emod_of_nonneg (by omega)]
  omega
theorem step_even (o X m p : Nat) : (o * ((X * X) % p) ^ m) % p = (o * X ^ (2 * m)) % p := by
  rw [Nat.mul_mod, ← Nat.pow_mod, ← Nat.mul_mod, Nat.pow_mul, Nat.pow_two]
theorem step_odd (o X m p : Nat) : ((o * X % p) * ((X * X) % p) ^ m) % p = (o * X ^ (2 * m + 1)) % p := by
  rw [step_even, Nat.mul_mod, Nat.mod_mod, ← Nat.mul_mod, Nat.pow_succ]
  congr 1
  rw [Nat.mul_assoc, Nat.mul_comm X]
theorem power_l0 : ∀ (d k X N O : Nat), X < 2147483579 → O < 2147483579 → N < 2 ^ d → d ≤ 62 → d < k →
    signature_Power.l0 k (X : Int) (N : Int) (O : Int) = some ((O * X ^ N % 2147483579 : Nat) : Int) := by
  intro d
  induction d with
  | zero =>
    intro k X N O hX hO hN hd hk
    obtain ⟨k, rfl⟩ : ∃ m, k = m + 1 := ⟨k - 1, by omega⟩
    simp only [signature_Power.l0]
    have : N = 0 := by simpa using hN
    subst this
    rw [if_neg (by omega), Nat.pow_zero, Nat.mul_one, Nat.mod_eq_of_lt hO]
  | succ d ih =>
    intro k X N O hX hO hN hd hk
    obtain ⟨k, rfl⟩ : ∃ m, k = m + 1 := ⟨k - 1, by omega⟩
    simp only [signature_Power.l0]
    rcases Nat.eq_zero_or_pos N with h0 | h0
    · subst h0
      rw [if_neg (by omega), Nat.pow_zero, Nat.mul_one, Nat.mod_eq_of_lt hO]
    · have h62 : 2 ^ (d + 1) ≤ 2 ^ 62 := Nat.pow_le_pow_right (by decide) hd
      rw [if_pos (by omega), bits_one N (by omega), mulP hX hX, mulP hO hX, show ((N : Int) / 2) = ((N / 2 : Nat) : Int) by omega]
      have hN2 : N / 2 < 2 ^ d := by rw [Nat.pow_succ] at hN; omega
      rw [ih k _ _ _ (Nat.mod_lt _ (by decide)) (Nat.mod_lt _ (by decide)) hN2 (by omega) (by omega), ih k _ _ _ (Nat.mod_lt _ (by decide)) hO hN2 (by omega) (by omega), step_odd, step_even]
      rcases Nat.mod_two_eq_zero_or_one N with h | h
      · rw [if_neg (by omega), show 2 * (N / 2) = N by omega]
      · rw [if_pos (by omega), show 2 * (N / 2) + 1 = N by omega]
theorem power_ev (X N : Nat) (hX : X < 2147483579) (hN : N < 4611686018427387904) : Ev (fun k => signature_Power.f k (X : Int) (N : Int)) ((X ^ N % 2147483579 : Nat) : Int) := by
  refine ⟨70, fun k hk => ?_⟩
  obtain ⟨k, rfl⟩ : ∃ m, k = m + 1 := ⟨k - 1, by omega⟩
  have hin : signature_in.f (X : Int) 0 2147483578 = some true := by
    unfold signature_in.f
    rw [if_pos (by omega), decide_eq_true (by omega)]
  simp only [signature_Power.f]
  rw [hin]
  simp only [Option.bind_some, if_true, signature_Power.j0]
  rw [if_neg (by simp)]
  have := power_l0 62 k X N 1 hX (by decide) (by simpa using hN) (by decide) (by omega)
  rw [Nat.one_mul] at this
  exact this

/-! digests: they come to an end, in words -/
def U (x : Int) : Prop := 0 ≤ x ∧ x < 4294967296
theorem rot_ev (x n : Int) : ∃ r, U r ∧ bits_RotateLeft32.f x n = some r := by
  unfold bits_RotateLeft32.f
  rw [if_pos (bits_u64 ..), if_pos (by rw [wrap_u64]; omega)]
  exact ⟨_, bits_u32 .., rfl⟩
abbrev D := Int × Int × Int × Int
def UD (r : D) : Prop := U r.1 ∧ U r.2.1 ∧ U r.2.2.1 ∧ U r.2.2.2
theorem permute_l0 : ∀ (d : Nat) (a b c e i : Int), U a → U b → U c → U e → 0 ≤ i → 12 - i = d → ∃ r : D, UD r ∧ ∀ k, d < k → digest_Permute.l0 k a b c e i = some r := by
  intro d
  induction d with
  | zero =>
    intro a b c e i ha hb hc he hi hd
    refine ⟨(a, b, c, e), ⟨ha, hb, hc, he⟩, fun k hk => ?_⟩
    obtain ⟨k, rfl⟩ : ∃ m, k = m + 1 := ⟨k - 1, by omega⟩
    simp only [digest_Permute.l0]
    rw [if_neg (by omega)]
  | succ d ih =>
    intro a b c e i ha hb hc he hi hd
    have um : ∀ x : Int, U (x % 4294967296) := fun x => ⟨by omega, by omega⟩
    obtain ⟨r1, u1, e1⟩ := rot_ev b 5
    obtain ⟨r2, u2, e2⟩ := rot_ev ((a + b) % 4294967296) 16
    obtain ⟨r3, u3, e3⟩ := rot_ev e 8
    obtain ⟨r4, u4, e4⟩ := rot_ev (Go.bits .xor .u32 r3 ((c + e) % 4294967296)) 13
    obtain ⟨r5, u5, e5⟩ := rot_ev (Go.bits .xor .u32 r1 ((a + b) % 4294967296)) 7
    obtain ⟨r6, u6, e6⟩ := rot_ev (((c + e) + (Go.bits .xor .u32 r1 ((a + b) % 4294967296))) % 4294967296) 16
    obtain ⟨r, hr, h⟩ := ih ((r2 + (Go.bits .xor .u32 r3 ((c + e) % 4294967296))) % 4294967296) (Go.bits .xor .u32 r5 (((c + e) + (Go.bits .xor .u32 r1 ((a + b) % 4294967296))) % 4294967296)) r6 (Go.bits .xor .u32 r4 ((r2 + (Go.bits .xor .u32 r3 ((c + e) % 4294967296))) % 4294967296)) (i + 1) (um _) (bits_u32 ..) u6 (bits_u32 ..) (by omega) (by omega)
    refine ⟨r, hr, fun k hk => ?_⟩
    obtain ⟨k, rfl⟩ : ∃ m, k = m + 1 := ⟨k - 1, by omega⟩
    simp only [digest_Permute.l0]
    rw [if_pos (by omega), e1, e2, e3]
    simp only [Option.bind_some]
    rw [e4, e5, e6]
    simp only [Option.bind_some]
    rw [w64 (by omega) (by omega)]
    exact h k (by omega)
theorem permute_ev (a b c e : Int) (ha : U a) (hb : U b) (hc : U c) (he : U e) : ∃ r : D, UD r ∧ Ev (fun k => digest_Permute.f k a b c e) r := by
  obtain ⟨r, hr, h⟩ := permute_l0 12 a b c e 0 ha hb hc he (by omega) (by omega)
  exact ⟨r, hr, 13, fun k hk => h k (by omega)⟩
theorem words_l0 (l : List Int) (hl : l.length ≤ 1099511627776) : ∀ (d : Nat) (i a b c e : Int), U a → U b → U c → U e → 0 ≤ i → (l.length : Int) - i ≤ d → i ≤ l.length + 2 → ∃ r : D, UD r ∧ Ev (fun k => digest_Words.l0 k l i a b c e) r := by
  intro d
  induction d using Nat.strongRecOn with
  | _ d ih =>
    intro i a b c e ha hb hc he hi hd h2
    by_cases hlt : i < (l.length : Int)
    · by_cases hlt1 : i + 1 < (l.length : Int)
      · obtain ⟨r, hr, h⟩ := permute_ev (Go.bits .xor .u32 a (rd l i)) (Go.bits .xor .u32 b (rd l (i + 1))) c e (bits_u32 ..) (bits_u32 ..) hc he
        obtain ⟨q, hq, h'⟩ := ih (d - 1) (by omega) (i + 2) r.1 r.2.1 (Go.bits .xor .u32 r.2.2.1 (rd l i)) (Go.bits .xor .u32 r.2.2.2 (rd l (i + 1))) hr.1 hr.2.1 (bits_u32 ..) (bits_u32 ..) (by omega) (by omega) (by omega)
        refine ⟨q, hq, Ev.step (f := fun k => digest_Words.j1 k l i (rd l i) (rd l (i + 1)) a b c e) (fun k => ?_) (Ev.step (fun k => ?_) (Ev.bind (f := fun k (x : D) => digest_Words.l0 k l (i + 2) x.1 x.2.1 (Go.bits .xor .u32 x.2.2.1 (rd l i)) (Go.bits .xor .u32 x.2.2.2 (rd l (i + 1)))) h h'))⟩
        · simp only [digest_Words.l0]
          rw [if_pos hlt, if_pos hi, w64 (x := i + 1) (by omega) (by omega), if_pos hlt1, if_pos (by omega)]
        · simp only [digest_Words.j1]
          rw [w64 (x := i + 2) (by omega) (by omega)]
      · obtain ⟨r, hr, h⟩ := permute_ev (Go.bits .xor .u32 a (rd l i)) (Go.bits .xor .u32 b 0) c e (bits_u32 ..) (bits_u32 ..) hc he
        obtain ⟨q, hq, h'⟩ := ih (d - 1) (by omega) (i + 2) r.1 r.2.1 (Go.bits .xor .u32 r.2.2.1 (rd l i)) (Go.bits .xor .u32 r.2.2.2 0) hr.1 hr.2.1 (bits_u32 ..) (bits_u32 ..) (by omega) (by omega) (by omega)
        refine ⟨q, hq, Ev.step (f := fun k => digest_Words.j1 k l i (rd l i) 0 a b c e) (fun k => ?_) (Ev.step (fun k => ?_) (Ev.bind (f := fun k (x : D) => digest_Words.l0 k l (i + 2) x.1 x.2.1 (Go.bits .xor .u32 x.2.2.1 (rd l i)) (Go.bits .xor .u32 x.2.2.2 0)) h h'))⟩
        · simp only [digest_Words.l0]
          rw [if_pos hlt, if_pos hi, w64 (x := i + 1) (by omega) (by omega), if_neg hlt1]
        · simp only [digest_Words.j1]
          rw [w64 (x := i + 2) (by omega) (by omega)]
    · obtain ⟨r, hr, h⟩ := permute_ev a b (Go.bits .xor .u32 c 4294967295) e ha hb (bits_u32 ..) he
      obtain ⟨q, hq, h'⟩ := permute_ev r.1 r.2.1 r.2.2.1 r.2.2.2 hr.1 hr.2.1 hr.2.2.1 hr.2.2.2
      refine ⟨q, hq, Ev.step (fun k => ?_) (Ev.bind (f := fun k (x : D) => (digest_Permute.f k x.1 x.2.1 x.2.2.1 x.2.2.2).bind fun y => some (y.1, y.2.1, y.2.2.1, y.2.2.2)) h (Ev.bind (f := fun _ (y : D) => some (y.1, y.2.1, y.2.2.1, y.2.2.2)) h' (Ev.now _)))⟩
      simp only [digest_Words.l0]
      rw [if_neg hlt]
theorem words_ev (t : Int) (l : List Int) (ht : U t) (hl : l.length ≤ 1099511627776) : ∃ r : D, UD r ∧ Ev (fun k => digest_Words.f k t l) r := by
  obtain ⟨r, hr, h⟩ := words_l0 l hl l.length 0 1702391089 1651466610 t (((l.length : Int)) % 4294967296) ⟨by omega, by omega⟩ ⟨by omega, by omega⟩ ht ⟨by omega, by omega⟩ (by omega) (by omega) (by omega)
  exact ⟨r, hr, h⟩
theorem numbers_l0 (t : Int) (l : List Int) (ht : U t) (hl : l.length ≤ 274877906944) : ∀ (d : Nat) (acc : List Int) (i : Int), 0 ≤ i → (l.length : Int) - i = d → acc.length = 2 * i.toNat → ∃ r : D, UD r ∧ Ev (fun k => digest_Numbers.l0 k t acc l (l.length : Int) i) r := by
  intro d
  induction d with
  | zero =>
    intro acc i hi hd ha
    obtain ⟨r, hr, h⟩ := words_ev t acc ht (by omega)
    refine ⟨r, hr, Ev.step (fun k => ?_) (Ev.bind (f := fun _ (y : D) => some (y.1, y.2.1, y.2.2.1, y.2.2.2)) h (Ev.now _))⟩
    simp only [digest_Numbers.l0]
    rw [if_neg (by omega)]
  | succ d ih =>
    intro acc i hi hd ha
    obtain ⟨r, hr, h⟩ := ih (acc ++ [(IntKind.u64.wrap (rd l i)) % 4294967296, ((IntKind.u64.wrap (rd l i)) / 4294967296) % 4294967296]) (i + 1) (by omega) (by omega) (by simp; omega)
    refine ⟨r, hr, Ev.step (fun k => ?_) h⟩
    simp only [digest_Numbers.l0]
    rw [if_pos (by omega), if_pos hi, if_pos (by omega)]
    simp only [Option.bind_some]
    rw [if_pos (by simp; omega), w64 (by omega) (by omega)]
theorem numbers_ev (t : Int) (l : List Int) (ht : U t) (hl : l.length ≤ 274877906944) : ∃ r : D, UD r ∧ Ev (fun k => digest_Numbers.f k t l) r :=
  numbers_l0 t l ht hl l.length [] 0 (by omega) (by omega) rfl
theorem word_l0 (t a b c e : Int) (ht : U t) : ∀ (d : Nat) (l : List Int) (i : Int), 0 ≤ i → 4 - i = d → l.length ≤ 100 + i.toNat → ∃ r : Int, U r ∧ Ev (fun k => signature_word.l0 k t l i a b c e) r := by
  intro d
  induction d with
  | zero =>
    intro l i hi hd hl
    obtain ⟨r, hr, h⟩ := numbers_ev t l ht (by omega)
    refine ⟨r.1, hr.1, Ev.step (f := fun k => (digest_Numbers.f k t l).bind fun x => some (wrap64 x.1)) (fun k => ?_) ?_⟩
    · simp only [signature_word.l0]
      rw [if_neg (by omega)]
    · have h1 := hr.1.1
      have h2 := hr.1.2
      have := Ev.bind (f := fun _ x => some (wrap64 x.1)) (r := r.1) h (by simp only [w64 (show -9223372036854775808 ≤ r.1 by omega) (by omega)]; exact Ev.now _)
      exact this
  | succ d ih =>
    intro l i hi hd hl
    obtain ⟨r, hr, h⟩ := ih (l ++ [wrap64 (ix4 i a b c e)]) (i + 1) (by omega) (by omega) (by simp; omega)
    refine ⟨r, hr, Ev.step (fun k => ?_) h⟩
    simp only [signature_word.l0]
    rw [if_pos (by omega), if_pos hi, if_pos (by omega), w64 (x := i + 1) (by omega) (by omega)]
theorem word_ev (t a b c e : Int) (l : List Int) (ht : U t) (hl : l.length ≤ 100) : ∃ r : Int, U r ∧ Ev (fun k => signature_word.f k t a b c e l) r :=
  word_l0 t a b c e ht 4 l 0 (by omega) (by omega) (by omega)
theorem chal_ev (r p a b c e : Int) : ∃ q : Nat, q < 1073741789 ∧ Ev (fun k => signature_Challenge.f k r p a b c e) (q : Int) := by
  obtain ⟨x, hx, h⟩ := word_ev 3 a b c e [r, p] ⟨by omega, by omega⟩ (by simp)
  obtain ⟨h1, h2⟩ := hx
  refine ⟨(x % 1073741789).toNat, by omega, ?_⟩
  have := Ev.bind (f := fun _ x => some (Int.tmod x 1073741789)) (r := (((x % 1073741789).toNat : Nat) : Int)) h (by
    rw [Int.toNat_of_nonneg (by omega), Int.tmod_eq_emod_of_nonneg h1]; exact Ev.now _)
  exact this
end Go.Proofs.Ytijmmnlhbbmhlaa.SigE
namespace Go.Proofs.Ytijmmnlhbbmhlaa.SigE
set_option linter.unusedVariables false
open Go.RowKit Go.Proofs.Ytijmmnlhbbmhlaa.Ix Go.Proofs.Ytijmmnlhbbmhlaa.XE Go.Proofs.YtijmmnlhbbmhlaaW.PrintWords Go.Proofs.YtijmmnlhbbmhlaaW.PrintLast Go.Proofs.YtijmmnlhbbmhlaaW.PrintMore

theorem sane_at : awardingbodylaw41_sane.f 80 = some true := by decide +kernel
theorem sane_ev : Ev (fun k => awardingbodylaw41_sane.f k) true := Ev.of (g := fun k => awardingbodylaw41_sane.f k) (fun k => awardingbodylaw41_sane.mono k) sane_at

/-! the base and its powers -/
def G (n : Nat) : Nat := 4 ^ n % 2147483579
theorem G_lt (n : Nat) : G n < 2147483579 := Nat.mod_lt _ (by decide)
theorem G_add (a b : Nat) : G (a + b) = G a * G b % 2147483579 := by
  unfold G
  rw [Nat.pow_add, Nat.mul_mod]
theorem G_mul (a b : Nat) : G (a * b) = G a ^ b % 2147483579 := by
  unfold G
  rw [Nat.pow_mul, ← Nat.pow_mod]
def Qn : Nat := 1073741789
theorem Qn_eq : Qn = 1073741789 := rfl
theorem G_Q' : ∀ q : Nat, q = 1073741789 → G q = 1 := by
  intro q hq
  have h := power_l0 62 70 4 q 1 (by decide) (by decide) (by omega) (by decide) (by decide)
  have e : signature_Power.l0 70 ((4 : Nat) : Int) (q : Int) ((1 : Nat) : Int) = some 1 := by rw [hq]; decide +kernel
  rw [e] at h
  have h' := Option.some.inj h
  unfold G
  rw [Nat.one_mul] at h'
  exact (Int.ofNat.inj h').symm
theorem G_Q : G Qn = 1 := G_Q' _ rfl
theorem G_zero : G 0 = 1 := by unfold G; rw [Nat.pow_zero]
theorem G_one : G 1 = 4 := by unfold G; rw [Nat.pow_one]
theorem G_Qm (m : Nat) : G (Qn * m) = 1 := by
  rw [G_mul, G_Q, Nat.one_pow]
theorem G_mod (n : Nat) : G (n % 1073741789) = G n := by
  conv => rhs; rw [← Nat.div_add_mod n 1073741789, G_add, ← Qn_eq, G_Qm, Nat.one_mul]
  exact (Nat.mod_eq_of_lt (G_lt _)).symm
/-- A power of the base is in the subgroup. -/
theorem G_mem (n : Nat) : G n ^ Qn % 2147483579 = 1 := by rw [← G_mul, Nat.mul_comm]; exact G_Qm n
theorem G_pos (n : Nat) : 1 ≤ G n := by
  rcases Nat.eq_zero_or_pos (G n) with h | h
  · have := G_mem n
    rw [h, Nat.zero_pow (by rw [Qn_eq]; decide)] at this
    exact absurd this (by decide)
  · exact h
theorem G_ne (e : Nat) (h0 : 0 < e) (h1 : e < 1073741789) : G e ≠ 1 := by
  intro h
  have hn : ¬ 1073741789 ∣ e := fun hd => by have := Nat.le_of_dvd h0 hd; omega
  have hf := FM.fermat' FM.prQ e hn
  obtain ⟨z, hz⟩ : ∃ z, FM.Q - 1 = z + 1 := ⟨1073741787, rfl⟩
  rw [hz, Nat.pow_succ] at hf
  have hg : G (e ^ z * e) = 4 := by rw [← G_mod]; exact (congrArg G hf).trans G_one
  rw [Nat.mul_comm, G_mul, h, Nat.one_pow] at hg
  exact absurd hg (by decide)
theorem G_inj_le {a b : Nat} (hab : a ≤ b) (h : G a = G b) : (b - a) % 1073741789 = 0 := by
  obtain ⟨e, rfl⟩ := Nat.exists_eq_add_of_le hab
  rw [Nat.add_sub_cancel_left]
  have h1 : G (e % 1073741789) = 1 := by
    rw [G_mod]
    rw [G_add] at h
    have hd : 2147483579 ∣ G a * G e - G a := Nat.dvd_of_mod_eq_zero (Nat.sub_mod_eq_zero_of_mod_eq (by rw [← h]; exact (Nat.mod_eq_of_lt (G_lt a)).symm))
    have he : G a * G e - G a = G a * (G e - 1) := by rw [Nat.mul_sub, Nat.mul_one]
    rw [he] at hd
    have hp : FM.Pr 2147483579 := FM.prP
    rcases hp.euclid hd with h2 | h2
    · have := Nat.le_of_dvd (G_pos a) h2
      have := G_lt a
      omega
    · have h3 := G_lt e
      have h4 := G_pos e
      rcases Nat.eq_zero_or_pos (G e - 1) with h5 | h5
      · omega
      · have := Nat.le_of_dvd h5 h2
        omega
  rcases Nat.eq_zero_or_pos (e % 1073741789) with h2 | h2
  · exact h2
  · exact absurd h1 (G_ne _ h2 (Nat.mod_lt _ (by decide)))
theorem G_iff (a b : Nat) : G a = G b ↔ a % 1073741789 = b % 1073741789 := by
  constructor
  · intro h
    rcases Nat.le_total a b with hab | hab
    · have := G_inj_le hab h; omega
    · have := G_inj_le hab h.symm; omega
  · intro h
    rw [← G_mod a, ← G_mod b, h]

/-! keys, signatures -/
theorem public_ev (s : Nat) (h0 : 1 ≤ s) (h1 : s < 1073741789) : Ev (fun k => signature_Public.f k (s : Int)) ((G s : Int), 0) := by
  have hv : signature_Valid.f (s : Int) = some true := by
    unfold signature_Valid.f signature_in.f
    rw [if_pos (by omega), decide_eq_true (by omega)]; rfl
  have h := Ev.bind (f := fun _ (x : Int) => some (x, (0 : Int))) (power_ev 4 s (by decide) (by omega)) (Ev.now _)
  refine Ev.congr (fun k => ?_) h
  simp only [signature_Public.f]
  rw [hv]
  rfl
theorem member_ev (x : Nat) (h0 : 1 ≤ x) (h1 : x < 2147483579) (hm : x ^ Qn % 2147483579 = 1) : Ev (fun k => signature_member.f k (x : Int)) true := by
  have hi : signature_in.f (x : Int) 1 2147483578 = some true := by
    unfold signature_in.f
    rw [if_pos (by omega), decide_eq_true (by omega)]
  have h := Ev.bind (f := fun _ (y : Int) => some (y == 1)) (r := true) (power_ev x Qn h1 (by rw [Qn_eq]; decide)) (by rw [hm]; exact Ev.now _)
  refine Ev.congr (fun k => ?_) h
  simp only [signature_member.f]
  rw [hi]
  rfl
theorem verify_ev (p R : Nat) (S : Int) (d0 d1 d2 d3 : Int) (c : Nat) (hp0 : 1 ≤ p) (hp1 : p < 2147483579) (hpm : p ^ Qn % 2147483579 = 1)
    (hR0 : 1 ≤ R) (hR1 : R < 2147483579) (hRm : R ^ Qn % 2147483579 = 1) (hc : c < 1073741789)
    (hC : Ev (fun k => signature_Challenge.f k (R : Int) (p : Int) d0 d1 d2 d3) (c : Int)) (b : Bool)
    (hb : b = true ↔ 0 ≤ S ∧ S < 1073741789 ∧ G S.toNat = R * (p ^ c % 2147483579) % 2147483579) :
    Ev (fun k => signature_Verify.f k (p : Int) d0 d1 d2 d3 (R : Int) S) b := by
  have h1 := member_ev p hp0 hp1 hpm
  have h2 := member_ev R hR0 hR1 hRm
  by_cases hS : 0 ≤ S ∧ S ≤ 1073741788
  · obtain ⟨N, rfl⟩ := Int.eq_ofNat_of_zero_le hS.1
    have hi : signature_in.f (N : Int) 0 1073741788 = some true := by
      unfold signature_in.f
      rw [if_pos (by omega), decide_eq_true hS.2]
    have h3 := power_ev 4 N (by decide) (by omega)
    have h4 := power_ev p c hp1 (by omega)
    have hbb : (((4 ^ N % 2147483579 : Nat) : Int) == Int.tmod (wrap64 ((R : Int) * ((p ^ c % 2147483579 : Nat) : Int))) 2147483579) = b := by
      rw [mulP hR1 (Nat.mod_lt _ (by decide))]
      rw [Bool.eq_iff_iff, hb]
      simp only [beq_iff_eq, G]
      constructor
      · intro h; exact ⟨by omega, by omega, by simpa using Int.ofNat.inj h⟩
      · rintro ⟨_, _, h⟩; simpa using congrArg Int.ofNat h
    have h5 := Ev.bind (f := fun k (x : Int) => (signature_Challenge.f k (R : Int) (p : Int) d0 d1 d2 d3).bind fun y => (signature_Power.f k (p : Int) y).bind fun z => some (x == Int.tmod (wrap64 ((R : Int) * z)) 2147483579)) (r := b) h3
      (Ev.bind (f := fun k (y : Int) => (signature_Power.f k (p : Int) y).bind fun z => some (((4 ^ N % 2147483579 : Nat) : Int) == Int.tmod (wrap64 ((R : Int) * z)) 2147483579)) hC
        (Ev.bind (f := fun _ (z : Int) => some (((4 ^ N % 2147483579 : Nat) : Int) == Int.tmod (wrap64 ((R : Int) * z)) 2147483579)) h4 (by simp only [hbb]; exact Ev.now _)))
    have h6 : Ev (fun k => signature_Verify.j0 k (p : Int) false d0 d1 d2 d3 (R : Int) (N : Int)) b := Ev.step (fun k => by simp only [signature_Verify.j0]; rw [if_neg (by simp)]; rfl) h5
    have h7 := Ev.bind (r := b) (f := fun k (x : Bool) => if x = true then ((signature_member.f k (R : Int)).bind fun y => if y = true then ((signature_in.f (N : Int) 0 1073741788).bind fun z => signature_Verify.j0 k (p : Int) (!z) d0 d1 d2 d3 (R : Int) (N : Int)) else signature_Verify.j0 k (p : Int) true d0 d1 d2 d3 (R : Int) (N : Int)) else signature_Verify.j0 k (p : Int) true d0 d1 d2 d3 (R : Int) (N : Int)) h1
      (by
        simp only [if_true]
        refine Ev.bind (r := b) (f := fun k (y : Bool) => if y = true then ((signature_in.f (N : Int) 0 1073741788).bind fun z => signature_Verify.j0 k (p : Int) (!z) d0 d1 d2 d3 (R : Int) (N : Int)) else signature_Verify.j0 k (p : Int) true d0 d1 d2 d3 (R : Int) (N : Int)) h2 ?_
        simp only [if_true, hi, Option.bind_some, Bool.not_true]
        exact h6)
    exact h7
  · have hbf : b = false := by
      rcases Bool.eq_false_or_eq_true b with h | h
      · have := hb.1 h; omega
      · exact h
    subst hbf
    have hi : signature_in.f S 0 1073741788 = some false := by
      unfold signature_in.f
      by_cases h0 : S ≥ 0
      · rw [if_pos h0, decide_eq_false (by omega)]
      · rw [if_neg h0]
    have h6 : Ev (fun k => signature_Verify.j0 k (p : Int) true d0 d1 d2 d3 (R : Int) S) false := Ev.step (f := fun _ => some false) (fun k => by simp only [signature_Verify.j0, if_true]) (Ev.now _)
    have h7 := Ev.bind (r := false) (f := fun k (x : Bool) => if x = true then ((signature_member.f k (R : Int)).bind fun y => if y = true then ((signature_in.f S 0 1073741788).bind fun z => signature_Verify.j0 k (p : Int) (!z) d0 d1 d2 d3 (R : Int) S) else signature_Verify.j0 k (p : Int) true d0 d1 d2 d3 (R : Int) S) else signature_Verify.j0 k (p : Int) true d0 d1 d2 d3 (R : Int) S) h1
      (by
        simp only [if_true]
        refine Ev.bind (r := false) (f := fun k (y : Bool) => if y = true then ((signature_in.f S 0 1073741788).bind fun z => signature_Verify.j0 k (p : Int) (!z) d0 d1 d2 d3 (R : Int) S) else signature_Verify.j0 k (p : Int) true d0 d1 d2 d3 (R : Int) S) h2 ?_
        simp only [if_true, hi, Option.bind_some, Bool.not_false]
        exact h6)
    exact h7
/-- With powers of the base for the key and for R: the exponents decide. -/
theorem verify_G (x r : Nat) (S : Int) (d0 d1 d2 d3 : Int) (c : Nat) (hc : c < 1073741789) (hC : Ev (fun k => signature_Challenge.f k (G r : Int) (G x : Int) d0 d1 d2 d3) (c : Int)) (b : Bool)
    (hb : b = true ↔ 0 ≤ S ∧ S < 1073741789 ∧ S.toNat = (r + x * c) % 1073741789) : Ev (fun k => signature_Verify.f k (G x : Int) d0 d1 d2 d3 (G r : Int) S) b := by
  refine verify_ev _ _ S d0 d1 d2 d3 c (G_pos _) (G_lt _) (G_mem _) (G_pos _) (G_lt _) (G_mem _) hc hC b ?_
  rw [← G_mul, ← G_add, hb, G_iff]
  constructor
  · rintro ⟨h0, h1, h2⟩; exact ⟨h0, h1, by omega⟩
  · rintro ⟨h0, h1, h2⟩; exact ⟨h0, h1, by omega⟩
theorem sign_ev (s : Nat) (d0 d1 d2 d3 : Int) (h0 : 1 ≤ s) (h1 : s < 1073741789) : ∃ r c : Nat, 1 ≤ r ∧ r < 1073741789 ∧ c < 1073741789 ∧ Ev (fun k => signature_Challenge.f k (G r : Int) (G s : Int) d0 d1 d2 d3) (c : Int) ∧
    Ev (fun k => signature_Sign.f k (s : Int) d0 d1 d2 d3) ((G r : Int), (((r + s * c) % 1073741789 : Nat) : Int), 0) := by
  obtain ⟨t, ht, hw⟩ := word_ev 4 d0 d1 d2 d3 [(s : Int)] ⟨by omega, by omega⟩ (by simp)
  obtain ⟨ht0, ht1⟩ := ht
  obtain ⟨T, rfl⟩ := Int.eq_ofNat_of_zero_le ht0
  have hr : wrap64 (1 + Int.tmod (T : Int) 1073741788) = ((1 + T % 1073741788 : Nat) : Int) := by
    rw [Int.tmod_eq_emod_of_nonneg ht0, w64 (by omega) (by omega)]; omega
  have hp := power_ev 4 (1 + T % 1073741788) (by decide) (by omega)
  obtain ⟨c, hc, hC⟩ := chal_ev (G (1 + T % 1073741788) : Int) (G s : Int) d0 d1 d2 d3
  refine ⟨1 + T % 1073741788, c, by omega, by omega, hc, hC, ?_⟩
  have hm : c * s ≤ 1073741789 * 1073741789 := Nat.mul_le_mul (by omega) (by omega)
  have he : Int.tmod (wrap64 ((((1 + T % 1073741788 : Nat) : Int)) + wrap64 ((c : Int) * (s : Int)))) 1073741789 = (((1 + T % 1073741788 + s * c) % 1073741789 : Nat) : Int) := by
    rw [show (c : Int) * (s : Int) = ((c * s : Nat) : Int) by simp, w64 (x := ((c * s : Nat) : Int)) (by omega) (by omega), w64 (by omega) (by omega), Int.tmod_eq_emod_of_nonneg (by omega), Nat.mul_comm s c]
    omega
  have h := Ev.bind (f := fun k (x : Int × Int) => if x.2 = 0 then ((signature_word.f k 4 d0 d1 d2 d3 [(s : Int)]).bind fun t => (signature_Power.f k 4 (wrap64 (1 + Int.tmod t 1073741788))).bind fun u => (signature_Challenge.f k u x.1 d0 d1 d2 d3).bind fun v => some (u, Int.tmod (wrap64 ((wrap64 (1 + Int.tmod t 1073741788)) + wrap64 (v * (s : Int)))) 1073741789, (0 : Int))) else some (0, 0, x.2))
    (r := ((G (1 + T % 1073741788) : Int), (((1 + T % 1073741788 + s * c) % 1073741789 : Nat) : Int), (0 : Int))) (public_ev s h0 h1) (by
      simp only [if_true]
      refine Ev.bind (f := fun k (t : Int) => (signature_Power.f k 4 (wrap64 (1 + Int.tmod t 1073741788))).bind fun u => (signature_Challenge.f k u (G s : Int) d0 d1 d2 d3).bind fun v => some (u, Int.tmod (wrap64 ((wrap64 (1 + Int.tmod t 1073741788)) + wrap64 (v * (s : Int)))) 1073741789, (0 : Int))) hw ?_
      simp only [hr]
      refine Ev.bind (f := fun k (u : Int) => (signature_Challenge.f k u (G s : Int) d0 d1 d2 d3).bind fun v => some (u, Int.tmod (wrap64 (((1 + T % 1073741788 : Nat) : Int) + wrap64 (v * (s : Int)))) 1073741789, (0 : Int))) hp ?_
      refine Ev.bind (f := fun k (v : Int) => some ((G (1 + T % 1073741788) : Int), Int.tmod (wrap64 (((1 + T % 1073741788 : Nat) : Int) + wrap64 (v * (s : Int)))) 1073741789, (0 : Int))) hC ?_
      simp only [he]
      exact Ev.now _)
  exact h
end Go.Proofs.Ytijmmnlhbbmhlaa.SigE
