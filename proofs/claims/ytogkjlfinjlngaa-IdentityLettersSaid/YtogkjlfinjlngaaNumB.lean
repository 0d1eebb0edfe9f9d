/-
  Candidate numbers, second part: Format and the numbers that the laws make.
  Conditions: those in each lemma's statement.
-/
import Derived.Test.YtogkjlfinjlngaaNum
namespace Go.Proofs.Ytogkjlfinjlngaa.Num
set_option linter.unusedVariables false
set_option linter.unusedSimpArgs false
open Go.RowKit Go.Proofs.Ytogkjlfinjlngaa.Ix Go.Proofs.Ytogkjlfinjlngaa.XA Go.Proofs.YtogkjlfinjlngaaW.PrintWords Go.Proofs.YtogkjlfinjlngaaW.PrintLast Go.Proofs.YtogkjlfinjlngaaW.PrintMore

theorem cut_ok {a n : Int} (h1 : 1 ≤ n) (h2 : n ≤ 1000000000) (ha : -9223372036854775808 ≤ a ∧ a ≤ 9223372036854775807) : awardingbodymake_Cut.f a n = some (a % n) := by
  unfold awardingbodymake_Cut.f
  rw [if_neg (by omega), if_neg (by omega)]
  have e := Int.emod_nonneg a (show n ≠ 0 by omega)
  have l := Int.emod_lt_of_pos a (show 0 < n by omega)
  have ht : Int.tmod a n = a % n ∨ (Int.tmod a n = a % n - n ∧ a % n ≠ 0) := by
    rw [Int.tmod_eq_emod]
    split
    · left; omega
    · rename_i h
      right
      rw [Int.natAbs_of_nonneg (by omega)]
      refine ⟨rfl, fun z => h (Or.inr ?_)⟩
      exact Int.dvd_of_emod_eq_zero z
  rcases ht with ht | ⟨ht, -⟩
  · rw [ht, if_neg (by omega)]
  · rw [ht, if_pos (by omega), w64 (by omega) (by omega)]
    congr 1; omega
def valid (c y n : Int) : Prop := 0 ≤ c ∧ c ≤ 99 ∧ 0 ≤ y ∧ y ≤ 99 ∧ 0 ≤ n ∧ n ≤ 9999
instance (c y n : Int) : Decidable (valid c y n) := by unfold valid; infer_instance
theorem valid_of (c y n : Int) : identity_Valid.f c y n = some (decide (valid c y n)) := by
  unfold identity_Valid.f valid
  by_cases h1 : 0 ≤ c
  case neg => rw [if_neg (by omega)]; simp [h1]
  by_cases h2 : c ≤ 99
  case neg => rw [if_pos h1, if_neg h2]; simp [h2]
  by_cases h3 : 0 ≤ y
  case neg => rw [if_pos h1, if_pos h2, if_neg (by omega)]; simp [h3]
  by_cases h4 : y ≤ 99
  case neg => rw [if_pos h1, if_pos h2, if_pos h3, if_neg h4]; simp [h4]
  by_cases h5 : 0 ≤ n
  case neg => rw [if_pos h1, if_pos h2, if_pos h3, if_pos h4, if_neg (by omega)]; simp [h5]
  rw [if_pos h1, if_pos h2, if_pos h3, if_pos h4, if_pos h5]; simp [h1, h2, h3, h4, h5]
theorem rvalid_of (c y n : Int) : awardingbodyref04_Valid.f c y n = some (decide (valid c y n)) := valid_of c y n

/-! Format -/
theorem padded_step (k : Nat) (x n : Int) (l : List Int) (i i' : Int) (hl : l.length ≤ 9) (h0 : 0 ≤ i) (hn : i < n) (hn' : n ≤ 9) (hi : i' = i + 1) (hx : 0 ≤ x) (hu : x ≤ 100000) :
    awardingbodyref04_Padded.l0 (k + 1) x n (strOfNums l) i = awardingbodyref04_Padded.l0 k (x / 10) n (strOfNums ((48 + x % 10) :: l)) i' := by
  subst hi
  simp only [awardingbodyref04_Padded.l0]
  rw [if_pos hn, Option.bind_some, if_pos (by rw [strOfNums_size, strOfNums_size]; simp; omega), Int.tmod_eq_emod_of_nonneg hx, Int.tdiv_eq_ediv_of_nonneg hx, w64 (by omega) (by omega), w64 (by omega) (by omega), w64 (by omega) (by omega), son_append]
  rw [show (48 + x % 10) % 256 = 48 + x % 10 by omega]; rfl
theorem padded_end (k : Nat) (x n : Int) (s : ByteArray) : awardingbodyref04_Padded.l0 (k + 1) x n s n = some s := by
  simp only [awardingbodyref04_Padded.l0]
  rw [if_neg (by omega)]
theorem padded2 {x : Int} (h0 : 0 ≤ x) (h1 : x ≤ 99) {k : Nat} (hk : 30 ≤ k) : awardingbodyref04_Padded.f k x 2 = some (strOfNums [48 + x / 10, 48 + x % 10]) := by
  obtain ⟨k, rfl⟩ : ∃ m, k = m + 1 + 1 + 1 := ⟨k - 3, by omega⟩
  unfold awardingbodyref04_Padded.f
  rw [show (⟨#[]⟩ : ByteArray) = strOfNums [] from rfl, padded_step _ _ _ _ 0 1 (by decide) (by omega) (by omega) (by omega) rfl (by omega) (by omega),
    padded_step _ _ _ _ 1 2 (by simp) (by omega) (by omega) (by omega) rfl (by omega) (by omega), padded_end, show x / 10 % 10 = x / 10 by omega]
theorem padded4 {x : Int} (h0 : 0 ≤ x) (h1 : x ≤ 9999) {k : Nat} (hk : 30 ≤ k) : awardingbodyref04_Padded.f k x 4 = some (strOfNums [48 + x / 1000, 48 + x / 100 % 10, 48 + x / 10 % 10, 48 + x % 10]) := by
  obtain ⟨k, rfl⟩ : ∃ m, k = m + 1 + 1 + 1 + 1 + 1 := ⟨k - 5, by omega⟩
  unfold awardingbodyref04_Padded.f
  rw [show (⟨#[]⟩ : ByteArray) = strOfNums [] from rfl, padded_step _ _ _ _ 0 1 (by decide) (by omega) (by omega) (by omega) rfl (by omega) (by omega),
    padded_step _ _ _ _ 1 2 (by simp) (by omega) (by omega) (by omega) rfl (by omega) (by omega), padded_step _ _ _ _ 2 3 (by simp) (by omega) (by omega) (by omega) rfl (by omega) (by omega),
    padded_step _ _ _ _ 3 4 (by simp) (by omega) (by omega) (by omega) rfl (by omega) (by omega), padded_end, show x / 10 / 10 / 10 % 10 = x / 1000 by omega, show x / 10 / 10 % 10 = x / 100 % 10 by omega]
theorem iformat_step (k : Nat) (x i : Int) {i' a0 a1 a2 a3 a4 a5 a6 a7 a8 : Int} (h0 : 0 ≤ i) (h1 : i < 9) (hi : i' = i - 1) (hx : 0 ≤ x) (hu : x ≤ 1000000000) :
    identity_Format.l0 (k + 1) x i a0 a1 a2 a3 a4 a5 a6 a7 a8 = identity_Format.l0 k (x / 10) i' (sx 0 i (48 + x % 10) a0) (sx 1 i (48 + x % 10) a1) (sx 2 i (48 + x % 10) a2) (sx 3 i (48 + x % 10) a3) (sx 4 i (48 + x % 10) a4) (sx 5 i (48 + x % 10) a5) (sx 6 i (48 + x % 10) a6) (sx 7 i (48 + x % 10) a7) (sx 8 i (48 + x % 10) a8) := by
  subst hi
  simp only [identity_Format.l0]
  rw [if_pos h0, Int.tmod_eq_emod_of_nonneg hx, if_pos (by omega), if_pos (by omega), if_pos h0, if_pos h1, bt_DS (by omega) (by omega), Int.tdiv_eq_ediv_of_nonneg hx, w64 (by omega) (by omega), w64 (by omega) (by omega)]
/-- the text of an ID -/
def c8 (c y n : Int) : Int := cl (48 + c / 10) (48 + c % 10) (48 + y / 10) (48 + y % 10) (48 + n / 1000) (48 + n / 100 % 10) (48 + n / 10 % 10) (48 + n % 10)
def fm (c y n : Int) : ByteArray := strOfNums [48 + c / 10, 48 + c % 10, 48 + y / 10, 48 + y % 10, 48 + n / 1000, 48 + n / 100 % 10, 48 + n / 10 % 10, 48 + n % 10, c8 c y n]
theorem fm_form {c y n : Int} (h : valid c y n) : Form (48 + c / 10) (48 + c % 10) (48 + y / 10) (48 + y % 10) (48 + n / 1000) (48 + n / 100 % 10) (48 + n / 10 % 10) (48 + n % 10) (c8 c y n) := by
  obtain ⟨h0, h1, h2, h3, h4, h5⟩ := h
  refine ⟨?_, ?_, ?_, ?_, ?_, ?_, ?_, ?_, cl_let ..⟩ <;> (unfold dig; omega)
theorem iformat_ok {c y n : Int} (h : valid c y n) {k : Nat} (hk : 60 ≤ k) : identity_Format.f k c y n = some (fm c y n, 0) := by
  obtain ⟨k, rfl⟩ : ∃ m, k = m + 1 + 1 + 1 + 1 + 1 + 1 + 1 + 1 + 1 := ⟨k - 9, by omega⟩
  have hf := fm_form h
  obtain ⟨h0, h1, h2, h3, h4, h5⟩ := id h
  unfold identity_Format.f
  rw [valid_of, Option.bind_some, if_pos (by simpa using h)]
  rw [w64 (x := c * 100) (by omega) (by omega), w64 (x := c * 100 + y) (by omega) (by omega), w64 (x := (c * 100 + y) * 10000) (by omega) (by omega), w64 (by omega) (by omega)]
  generalize hv : (c * 100 + y) * 10000 + n = v
  have hv0 : 0 ≤ v := by omega
  have hv1 : v ≤ 100000000 := by omega
  rw [iformat_step _ _ 7 (i' := 6) (by omega) (by omega) rfl (by omega) (by omega), iformat_step _ _ 6 (i' := 5) (by omega) (by omega) rfl (by omega) (by omega),
    iformat_step _ _ 5 (i' := 4) (by omega) (by omega) rfl (by omega) (by omega), iformat_step _ _ 4 (i' := 3) (by omega) (by omega) rfl (by omega) (by omega),
    iformat_step _ _ 3 (i' := 2) (by omega) (by omega) rfl (by omega) (by omega), iformat_step _ _ 2 (i' := 1) (by omega) (by omega) rfl (by omega) (by omega),
    iformat_step _ _ 1 (i' := 0) (by omega) (by omega) rfl (by omega) (by omega), iformat_step _ _ 0 (i' := -1) (by omega) (by omega) rfl (by omega) (by omega)]
  have e : ∀ (X : Int) (k : Nat), 30 ≤ k → identity_Format.l0 (k + 1) X (-1) (48 + c / 10) (48 + c % 10) (48 + y / 10) (48 + y % 10) (48 + n / 1000) (48 + n / 100 % 10) (48 + n / 10 % 10) (48 + n % 10) 0 = some (fm c y n, 0) := by
    intro X k hk
    simp only [identity_Format.l0]
    rw [if_neg (by omega), check_ok 0 hf.d0 hf.d1 hf.d2 hf.d3 hf.d4 hf.d5 hf.d6 hf.d7 hk]
    rfl
  rw [show c / 10 = v / 10 / 10 / 10 / 10 / 10 / 10 / 10 % 10 by omega, show c % 10 = v / 10 / 10 / 10 / 10 / 10 / 10 % 10 by omega, show y / 10 = v / 10 / 10 / 10 / 10 / 10 % 10 by omega, show y % 10 = v / 10 / 10 / 10 / 10 % 10 by omega,
    show n / 1000 = v / 10 / 10 / 10 % 10 by omega, show n / 100 % 10 = v / 10 / 10 % 10 by omega, show n / 10 % 10 = v / 10 % 10 by omega, show n % 10 = v % 10 by omega] at e
  exact e _ _ (by omega)
theorem rformat_ok {c y n : Int} (h : valid c y n) {k : Nat} (hk : 60 ≤ k) : awardingbodyref04_Format.f k c y n = some (fm c y n, 0) := by
  have hf := fm_form h
  obtain ⟨h0, h1, h2, h3, h4, h5⟩ := id h
  unfold awardingbodyref04_Format.f
  rw [rvalid_of, Option.bind_some, if_pos (by simpa using h), padded2 h0 h1 (by omega), Option.bind_some, padded2 h2 h3 (by omega), Option.bind_some, if_pos (by simp only [strOfNums_size, List.length_cons, List.length_nil]; omega),
    padded4 h4 h5 (by omega), Option.bind_some, if_pos (by simp only [strOfNums_size, List.length_cons, List.length_nil]; omega), son_append, son_append]
  have e := letter_ok hf.d0 hf.d1 hf.d2 hf.d3 hf.d4 hf.d5 hf.d6 hf.d7 (k := k) (by omega)
  simp only [List.cons_append, List.nil_append]
  rw [e, Option.bind_some, if_pos (by simp only [strOfNums_size, List.length_cons, List.length_nil]; omega), son_append]
  rfl
def fv (c y n : Int) : ByteArray × Int := if valid c y n then (fm c y n, 0) else ((⟨#[]⟩ : ByteArray), 2)
theorem iformat (c y n : Int) {k : Nat} (hk : 60 ≤ k) : identity_Format.f k c y n = some (fv c y n) := by
  unfold fv
  by_cases h : valid c y n
  · rw [if_pos h, iformat_ok h hk]
  · unfold identity_Format.f
    rw [valid_of, Option.bind_some, if_neg (by simpa using h), if_neg h]
theorem rformat (c y n : Int) {k : Nat} (hk : 60 ≤ k) : awardingbodyref04_Format.f k c y n = some (fv c y n) := by
  unfold fv
  by_cases h : valid c y n
  · rw [if_pos h, rformat_ok h hk]
  · unfold awardingbodyref04_Format.f
    rw [rvalid_of, Option.bind_some, if_neg (by simpa using h), if_neg h]
theorem awake_ok {k : Nat} (hk : 60 ≤ k) : awardingbodylaw04_awake.f k = some true :=
  at_rounds (g := fun k => awardingbodylaw04_awake.f k) (fun k => awardingbodylaw04_awake.mono k) hk (by decide +kernel)

/-! the laws' numbers -/
def nc (n : Int) : Int := n % 100000000 / 1000000
def ny (n : Int) : Int := n % 100000000 / 10000 % 100
def nn (n : Int) : Int := n % 100000000 % 10000
theorem n_valid (n : Int) : valid (nc n) (ny n) (nn n) := by unfold valid nc ny nn; omega
theorem n_parts {n : Int} (h : -9223372036854775808 ≤ n ∧ n ≤ 9223372036854775807) : wrap64 (Int.tdiv (n % 100000000) 1000000) = nc n ∧ Int.tmod (wrap64 (Int.tdiv (n % 100000000) 10000)) 100 = ny n ∧ Int.tmod (n % 100000000) 10000 = nn n := by
  have h0 : 0 ≤ n % 100000000 := by omega
  refine ⟨?_, ?_, ?_⟩
  · rw [Int.tdiv_eq_ediv_of_nonneg h0, w64 (by omega) (by omega)]; rfl
  · rw [Int.tdiv_eq_ediv_of_nonneg h0, w64 (by omega) (by omega), Int.tmod_eq_emod_of_nonneg (by omega)]; rfl
  · rw [Int.tmod_eq_emod_of_nonneg h0]; rfl
theorem number_ok {n : Int} (h : -9223372036854775808 ≤ n ∧ n ≤ 9223372036854775807) {k : Nat} (hk : 60 ≤ k) : awardingbodylaw04_number.f k n = some (fm (nc n) (ny n) (nn n)) := by
  unfold awardingbodylaw04_number.f
  obtain ⟨e1, e2, e3⟩ := n_parts h
  rw [cut_ok (by omega) (by omega) h, Option.bind_some, e1, e2, e3, rformat_ok (n_valid n) hk]; rfl
theorem val_fm {c y n : Int} (h : valid c y n) : cut3 (val (48 + c / 10) (48 + c % 10) (48 + y / 10) (48 + y % 10) (48 + n / 1000) (48 + n / 100 % 10) (48 + n / 10 % 10) (48 + n % 10)) = (c, y, n, 0) := by
  obtain ⟨h0, h1, h2, h3, h4, h5⟩ := h
  have e : val (48 + c / 10) (48 + c % 10) (48 + y / 10) (48 + y % 10) (48 + n / 1000) (48 + n / 100 % 10) (48 + n / 10 % 10) (48 + n % 10) = 1000000 * c + 10000 * y + n := by unfold val; omega
  rw [e]; unfold cut3
  rw [show (1000000 * c + 10000 * y + n) / 1000000 = c by omega, show (1000000 * c + 10000 * y + n) / 10000 % 100 = y by omega, show (1000000 * c + 10000 * y + n) % 10000 = n by omega]
theorem fm_val {b0 b1 b2 b3 b4 b5 b6 b7 b8 : Int} (h : Form b0 b1 b2 b3 b4 b5 b6 b7 b8) (e : b8 = cl b0 b1 b2 b3 b4 b5 b6 b7) :
    valid (val b0 b1 b2 b3 b4 b5 b6 b7 / 1000000) (val b0 b1 b2 b3 b4 b5 b6 b7 / 10000 % 100) (val b0 b1 b2 b3 b4 b5 b6 b7 % 10000) ∧
    fm (val b0 b1 b2 b3 b4 b5 b6 b7 / 1000000) (val b0 b1 b2 b3 b4 b5 b6 b7 / 10000 % 100) (val b0 b1 b2 b3 b4 b5 b6 b7 % 10000) = strOfNums [b0, b1, b2, b3, b4, b5, b6, b7, b8] := by
  obtain ⟨d0, d1, d2, d3, d4, d5, d6, d7, d8⟩ := h
  unfold dig at *
  generalize hv : val b0 b1 b2 b3 b4 b5 b6 b7 = v
  unfold val at hv
  have e0 : 48 + v / 1000000 / 10 = b0 := by omega
  have e1 : 48 + v / 1000000 % 10 = b1 := by omega
  have e2 : 48 + v / 10000 % 100 / 10 = b2 := by omega
  have e3 : 48 + v / 10000 % 100 % 10 = b3 := by omega
  have e4 : 48 + v % 10000 / 1000 = b4 := by omega
  have e5 : 48 + v % 10000 / 100 % 10 = b5 := by omega
  have e6 : 48 + v % 10000 / 10 % 10 = b6 := by omega
  have e7 : 48 + v % 10000 % 10 = b7 := by omega
  refine ⟨by unfold valid; omega, ?_⟩
  unfold fm c8
  rw [e0, e1, e2, e3, e4, e5, e6, e7, ← e]
theorem parse_fm {c y n : Int} (h : valid c y n) {k : Nat} (hk : 60 ≤ k) : identity_Parse.f k (fm c y n) = some (c, y, n, 0) := by
  unfold fm
  rw [iparse_ok (fm_form h) hk]
  unfold pv
  rw [if_pos (by rfl), val_fm h]
theorem fm_size (c y n : Int) : (fm c y n).size = 9 := by unfold fm; rw [strOfNums_size]; rfl
end Go.Proofs.Ytogkjlfinjlngaa.Num
