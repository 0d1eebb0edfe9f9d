/-
  Candidate numbers as lists of nine bytes: what the printed functions of the packages identity and awardingbodyref04 come to.
  Conditions: those in each lemma's statement.
-/
import Derived.Test.YtogkjlfinjlngaaXUx4
import Derived.Lib.Bytealg
import Derived.Lib.Bytes
import Derived.Laws.BytesArg
namespace Go.Proofs.Ytogkjlfinjlngaa.NumU
set_option linter.unusedVariables false
set_option linter.unusedSimpArgs false
open Go.RowKit Go.Proofs.Ytogkjlfinjlngaa.Ix Go.Proofs.Ytogkjlfinjlngaa.XU Go.Proofs.YtogkjlfinjlngaaW.PrintWords Go.Proofs.YtogkjlfinjlngaaW.PrintLast Go.Proofs.YtogkjlfinjlngaaW.PrintMore

/-! texts -/
theorem w64 {x : Int} (h0 : -9223372036854775808 ≤ x) (h1 : x ≤ 9223372036854775807) : wrap64 x = x := by unfold wrap64; omega
theorem wf64 {x : Int} (h : (Lit.int .i64 x).wf = true) : -9223372036854775808 ≤ x ∧ x ≤ 9223372036854775807 := by
  simp [Lit.wf, IntKind.min, IntKind.max, IntKind.signed, IntKind.bits] at h
  omega
theorem wfu8 {x : Int} (h : (Lit.int .u8 x).wf = true) : 0 ≤ x ∧ x < 256 := by
  simp [Lit.wf, IntKind.min, IntKind.max, IntKind.signed, IntKind.bits] at h
  omega
theorem son_append (l m : List Int) : strOfNums l ++ strOfNums m = strOfNums (l ++ m) := by
  apply ByteArray.ext; simp [strOfNums]
theorem son_extract (l : List Int) (a b : Nat) : (strOfNums l).extract a b = strOfNums ((l.take b).drop a) := by
  apply ByteArray.ext
  simp [strOfNums, List.map_take, List.map_drop, List.drop_take]
theorem son_bytes (s : ByteArray) : s = strOfNums (Go.Proofs.YtogkjlfinjlngaaW.PrintWords.bytesOf s) := by
  have e : ((fun n : Int => UInt8.ofNat n.toNat) ∘ fun b : UInt8 => (b.toNat : Int)) = id := by funext b; simp
  apply ByteArray.ext
  simp [strOfNums, Go.Proofs.YtogkjlfinjlngaaW.PrintWords.bytesOf, e]
theorem bt_son (l : List Int) (i : Int) (h0 : 0 ≤ i) (v : Int) (h : l[i.toNat]? = some v) (hv : 0 ≤ v ∧ v < 256) : bt (strOfNums l) i = v := by
  have hl : i.toNat < l.length := by
    rcases Nat.lt_or_ge i.toNat l.length with h' | h'
    · exact h'
    · rw [List.getElem?_eq_none h'] at h; cases h
  have hs : i.toNat < (strOfNums l).size := by rw [strOfNums_size]; exact hl
  unfold bt
  rw [dif_pos hs]
  have e : (strOfNums l)[i.toNat]'hs = UInt8.ofNat v.toNat := by
    have : l[i.toNat]'hl = v := by rw [List.getElem?_eq_getElem hl] at h; exact Option.some.inj h
    show (strOfNums l).data[i.toNat]'_ = _
    simp [strOfNums, this]
  rw [e]
  simp [UInt8.toNat_ofNat]
  omega
theorem toList_inj {a b : ByteArray} : a.toList = b.toList ↔ a = b := by
  constructor
  · intro h
    rw [Go.Lib.toList_data, Go.Lib.toList_data] at h
    exact ByteArray.ext (Array.toList_inj.mp h)
  · rintro rfl; rfl
/-- each text of nine bytes -/
theorem nine (s : ByteArray) (h : s.size = 9) : ∃ b0 b1 b2 b3 b4 b5 b6 b7 b8 : Int, s = strOfNums [b0, b1, b2, b3, b4, b5, b6, b7, b8] ∧ ∀ x ∈ [b0, b1, b2, b3, b4, b5, b6, b7, b8], 0 ≤ x ∧ x < 256 := by
  have e := son_bytes s
  have hl : (Go.Proofs.YtogkjlfinjlngaaW.PrintWords.bytesOf s).length = 9 := by rw [bytesOf_length, h]
  have hb : ∀ x ∈ Go.Proofs.YtogkjlfinjlngaaW.PrintWords.bytesOf s, 0 ≤ x ∧ x < 256 := by
    intro x hx
    obtain ⟨b, -, rfl⟩ := List.mem_map.mp hx
    have := b.toNat_lt
    omega
  generalize Go.Proofs.YtogkjlfinjlngaaW.PrintWords.bytesOf s = l at *
  match l, hl with
  | [b0, b1, b2, b3, b4, b5, b6, b7, b8], _ => exact ⟨b0, b1, b2, b3, b4, b5, b6, b7, b8, e, hb⟩
theorem eight (s : ByteArray) (h : s.size = 8) : ∃ b0 b1 b2 b3 b4 b5 b6 b7 : Int, s = strOfNums [b0, b1, b2, b3, b4, b5, b6, b7] ∧ ∀ x ∈ [b0, b1, b2, b3, b4, b5, b6, b7], 0 ≤ x ∧ x < 256 := by
  have e := son_bytes s
  have hl : (Go.Proofs.YtogkjlfinjlngaaW.PrintWords.bytesOf s).length = 8 := by rw [bytesOf_length, h]
  have hb : ∀ x ∈ Go.Proofs.YtogkjlfinjlngaaW.PrintWords.bytesOf s, 0 ≤ x ∧ x < 256 := by
    intro x hx
    obtain ⟨b, -, rfl⟩ := List.mem_map.mp hx
    have := b.toNat_lt
    omega
  generalize Go.Proofs.YtogkjlfinjlngaaW.PrintWords.bytesOf s = l at *
  match l, hl with
  | [b0, b1, b2, b3, b4, b5, b6, b7], _ => exact ⟨b0, b1, b2, b3, b4, b5, b6, b7, e, hb⟩

/-! digits and letters -/
abbrev LS : ByteArray := ⟨#[65, 66, 67, 68, 69, 70, 71, 72, 74, 75, 76, 77, 78, 80, 81, 82, 83, 84, 85, 86, 87, 88, 89]⟩
abbrev DS : ByteArray := ⟨#[48, 49, 50, 51, 52, 53, 54, 55, 56, 57]⟩
def dig (x : Int) : Prop := 48 ≤ x ∧ x ≤ 57
def let' (x : Int) : Prop := 65 ≤ x ∧ x ≤ 89 ∧ x ≠ 73 ∧ x ≠ 79
instance (x : Int) : Decidable (dig x) := by unfold dig; infer_instance
instance (x : Int) : Decidable (let' x) := by unfold let'; infer_instance
/-- the letter with a number -/
def ltr (m : Int) : Int := if m < 8 then 65 + m else if m < 13 then 66 + m else 67 + m
theorem ltr_bt_all : ∀ n : Fin 23, bt LS (n.val : Int) = ltr (n.val : Int) := by decide +kernel
theorem ltr_bt {m : Int} (h0 : 0 ≤ m) (h1 : m < 23) : bt LS m = ltr m := by
  have := ltr_bt_all ⟨m.toNat, by omega⟩
  simpa [Int.toNat_of_nonneg h0] using this
theorem ltr_let {m : Int} (h0 : 0 ≤ m) (h1 : m < 23) : let' (ltr m) := by unfold let' ltr; split <;> (try split) <;> omega
theorem ltr_inj {m n : Int} (h0 : 0 ≤ m) (h1 : m < 23) (h2 : 0 ≤ n) (h3 : n < 23) (h : ltr m = ltr n) : m = n := by unfold ltr at h; split at h <;> split at h <;> (try split at h) <;> (try split at h) <;> omega
theorem bt_DS_all : ∀ n : Fin 10, bt DS (n.val : Int) = 48 + (n.val : Int) := by decide +kernel
theorem bt_DS {m : Int} (h0 : 0 ≤ m) (h1 : m < 10) : bt DS m = 48 + m := by
  have := bt_DS_all ⟨m.toNat, by omega⟩
  simpa [Int.toNat_of_nonneg h0] using this
theorem ext_LS_all : ∀ n : Fin 23, LS.extract n.val (n.val + 1) = strOfNums [ltr (n.val : Int)] := by decide +kernel
theorem ext_LS {m : Int} (h0 : 0 ≤ m) (h1 : m < 23) : LS.extract m.toNat (m + 1).toNat = strOfNums [ltr m] := by
  have := ext_LS_all ⟨m.toNat, by omega⟩
  rw [show (m + 1).toNat = m.toNat + 1 by omega]
  simpa [Int.toNat_of_nonneg h0] using this
theorem ib_D_all : ∀ n : Fin 256, decide (Go.Lib.indexByte (DS ++ (⟨#[]⟩ : ByteArray)).data.toList (n.val : Int).toNat.toUInt8 < 0) = !decide (dig (n.val : Int)) := by decide +kernel
theorem ib_L_all : ∀ n : Fin 256, decide (Go.Lib.indexByte (LS ++ (⟨#[]⟩ : ByteArray)).data.toList (n.val : Int).toNat.toUInt8 < 0) = !decide (let' (n.val : Int)) := by decide +kernel
theorem ib_D {x : Int} (h : 0 ≤ x ∧ x < 256) : (Go.Lib.indexByte (DS ++ (⟨#[]⟩ : ByteArray)).data.toList x.toNat.toUInt8 < 0) ↔ ¬ dig x := by
  have := ib_D_all ⟨x.toNat, by omega⟩
  simp only [Int.toNat_of_nonneg h.1] at this
  constructor
  · intro a b; rw [decide_eq_true a, decide_eq_true b] at this; exact absurd this (by decide)
  · intro a; rw [decide_eq_false a] at this; exact of_decide_eq_true this
theorem ib_L {x : Int} (h : 0 ≤ x ∧ x < 256) : (Go.Lib.indexByte (LS ++ (⟨#[]⟩ : ByteArray)).data.toList x.toNat.toUInt8 < 0) ↔ ¬ let' x := by
  have := ib_L_all ⟨x.toNat, by omega⟩
  simp only [Int.toNat_of_nonneg h.1] at this
  constructor
  · intro a b; rw [decide_eq_true a, decide_eq_true b] at this; exact absurd this (by decide)
  · intro a; rw [decide_eq_false a] at this; exact of_decide_eq_true this
/-- may a byte stand at a place -/
def fit (i x : Int) : Prop := if i < 8 then dig x else let' x
instance (i x : Int) : Decidable (fit i x) := by unfold fit; infer_instance
/-! the check letter -/
def sm (c0 c1 c2 c3 c4 c5 c6 c7 : Int) : Int := c0 + 2 * c1 + 3 * c2 + 4 * c3 + 5 * c4 + 6 * c5 + 7 * c6 + 8 * c7 - 1728
def cl (c0 c1 c2 c3 c4 c5 c6 c7 : Int) : Int := ltr (sm c0 c1 c2 c3 c4 c5 c6 c7 % 23)
theorem cl_let (c0 c1 c2 c3 c4 c5 c6 c7 : Int) : let' (cl c0 c1 c2 c3 c4 c5 c6 c7) := ltr_let (by omega) (by omega)
theorem term {b i' : Int} (hb : dig b) (h0 : 0 ≤ i') (h1 : i' ≤ 8) : wrap64 (i' * ((b - 48) % 256)) = i' * (b - 48) ∧ 0 ≤ i' * (b - 48) ∧ i' * (b - 48) ≤ 72 := by
  obtain ⟨l, u⟩ := hb
  have e : (b - 48) % 256 = b - 48 := by omega
  have p : 0 ≤ i' * (b - 48) := Int.mul_nonneg h0 (by omega)
  have q : i' * (b - 48) ≤ 8 * 9 := Int.mul_le_mul h1 (by omega) (by omega) (by omega)
  refine ⟨?_, p, by omega⟩
  rw [e]; exact w64 (by omega) (by omega)
theorem check_step (k : Nat) (x i i' b : Int) {x' b0 b1 b2 b3 b4 b5 b6 b7 b8 : Int} (h0 : 0 ≤ i) (h1 : i < 8) (hi : i' = i + 1) (hb : ix9 i b0 b1 b2 b3 b4 b5 b6 b7 b8 = b) (hd : dig b) (hx : x' = x + i' * (b - 48)) (hl : 0 ≤ x) (hu : x ≤ 1000) :
    identity_number_check.l0 (k + 1) x 8 i b0 b1 b2 b3 b4 b5 b6 b7 b8 = identity_number_check.l0 k x' 8 i' b0 b1 b2 b3 b4 b5 b6 b7 b8 := by
  obtain ⟨e, p, q⟩ := term (i' := i') hd (by omega) (by omega)
  subst hx
  simp only [identity_number_check.l0]
  rw [if_pos h1, if_pos h0, if_pos h1, w64 (x := i + 1) (by omega) (by omega), hb, ← hi, e, w64 (by omega) (by omega)]
theorem check_end (k : Nat) (x : Int) {b0 b1 b2 b3 b4 b5 b6 b7 b8 : Int} (hl : 0 ≤ x) (hu : x ≤ 1000) :
    identity_number_check.l0 (k + 1) x 8 8 b0 b1 b2 b3 b4 b5 b6 b7 b8 = some (ltr (x % 23)) := by
  simp only [identity_number_check.l0]
  rw [if_neg (by omega), Int.tmod_eq_emod_of_nonneg hl, if_pos (by omega), if_pos (by omega), ltr_bt (by omega) (by omega)]
theorem check_ok {b0 b1 b2 b3 b4 b5 b6 b7 : Int} (b8 : Int) (d0 : dig b0) (d1 : dig b1) (d2 : dig b2) (d3 : dig b3) (d4 : dig b4) (d5 : dig b5) (d6 : dig b6) (d7 : dig b7) {k : Nat} (hk : 30 ≤ k) :
    identity_number_check.f k b0 b1 b2 b3 b4 b5 b6 b7 b8 = some (cl b0 b1 b2 b3 b4 b5 b6 b7) := by
  obtain ⟨k, rfl⟩ : ∃ m, k = m + 1 + 1 + 1 + 1 + 1 + 1 + 1 + 1 + 1 := ⟨k - 9, by omega⟩
  unfold identity_number_check.f
  have hd := d0; have := d1; have := d2; have := d3; have := d4; have := d5; have := d6; have := d7
  unfold dig at *
  rw [check_step _ 0 0 1 b0 (x' := b0 - 48) (by omega) (by omega) rfl rfl d0 (by omega) (by omega) (by omega),
    check_step _ _ 1 2 b1 (x' := b0 + 2 * b1 - 144) (by omega) (by omega) rfl rfl d1 (by omega) (by omega) (by omega),
    check_step _ _ 2 3 b2 (x' := b0 + 2 * b1 + 3 * b2 - 288) (by omega) (by omega) rfl rfl d2 (by omega) (by omega) (by omega),
    check_step _ _ 3 4 b3 (x' := b0 + 2 * b1 + 3 * b2 + 4 * b3 - 480) (by omega) (by omega) rfl rfl d3 (by omega) (by omega) (by omega),
    check_step _ _ 4 5 b4 (x' := b0 + 2 * b1 + 3 * b2 + 4 * b3 + 5 * b4 - 720) (by omega) (by omega) rfl rfl d4 (by omega) (by omega) (by omega),
    check_step _ _ 5 6 b5 (x' := b0 + 2 * b1 + 3 * b2 + 4 * b3 + 5 * b4 + 6 * b5 - 1008) (by omega) (by omega) rfl rfl d5 (by omega) (by omega) (by omega),
    check_step _ _ 6 7 b6 (x' := b0 + 2 * b1 + 3 * b2 + 4 * b3 + 5 * b4 + 6 * b5 + 7 * b6 - 1344) (by omega) (by omega) rfl rfl d6 (by omega) (by omega) (by omega),
    check_step _ _ 7 8 b7 (x' := sm b0 b1 b2 b3 b4 b5 b6 b7) (by omega) (by omega) rfl rfl d7 (by unfold sm; omega) (by omega) (by omega),
    check_end _ _ (by unfold sm; omega) (by unfold sm; omega)]
  rfl

/-! the reference's letter -/
theorem letter_step (k : Nat) (s : ByteArray) (x i i' b : Int) {x' : Int} (h0 : 0 ≤ i) (h1 : i < 8) (hs : s.size = 8) (hi : i' = i + 1) (hb : bt s i = b) (hd : dig b) (hx : x' = x + i' * (b - 48)) (hl : 0 ≤ x) (hu : x ≤ 1000) :
    awardingbodyref04_Letter.l0 (k + 1) s x i = awardingbodyref04_Letter.l0 k s x' i' := by
  obtain ⟨e, p, q⟩ := term (i' := i') hd (by omega) (by omega)
  have := hd; unfold dig at this
  subst hx
  simp only [awardingbodyref04_Letter.l0]
  rw [if_pos h1, if_pos h0, if_pos (by omega), hb, if_neg (by omega), if_neg (by omega), w64 (x := i + 1) (by omega) (by omega), ← hi, e, w64 (by omega) (by omega)]
theorem letter_end (k : Nat) (s : ByteArray) (x : Int) (hl : 0 ≤ x) (hu : x ≤ 1000) :
    awardingbodyref04_Letter.l0 (k + 1) s x 8 = some (strOfNums [ltr (x % 23)], 0) := by
  simp only [awardingbodyref04_Letter.l0]
  rw [if_neg (by omega), Int.tmod_eq_emod_of_nonneg hl, if_pos (by omega), w64 (by omega) (by omega), if_pos (by omega), if_pos (by omega), ext_LS (by omega) (by omega)]
theorem letter_bad (s : ByteArray) (hs : s.size = 8) (j : Int) (hj : j < 8) (hb : ¬ dig (bt s j)) : ∀ (d : Nat) (x i : Int) (k : Nat), j - i = d → 0 ≤ i → d < k → awardingbodyref04_Letter.l0 k s x i = some ((⟨#[]⟩ : ByteArray), 7) := by
  intro d
  induction d with
  | zero =>
    intro x i k hd h0 hk
    obtain ⟨k, rfl⟩ : ∃ m, k = m + 1 := ⟨k - 1, by omega⟩
    obtain rfl : i = j := by omega
    simp only [awardingbodyref04_Letter.l0]
    unfold dig at hb
    rw [if_pos hj, if_pos h0, if_pos (by omega)]
    by_cases h : bt s i < 48
    · rw [if_pos h]
    · rw [if_neg h, if_pos (by omega)]
  | succ d ih =>
    intro x i k hd h0 hk
    obtain ⟨k, rfl⟩ : ∃ m, k = m + 1 := ⟨k - 1, by omega⟩
    simp only [awardingbodyref04_Letter.l0]
    rw [if_pos (by omega), if_pos h0, if_pos (by omega)]
    by_cases h : bt s i < 48
    · rw [if_pos h]
    · rw [if_neg h]
      by_cases h' : bt s i > 57
      · rw [if_pos h']
      · rw [if_neg h', ih _ _ k (by rw [w64 (by omega) (by omega)]; omega) (by rw [w64 (by omega) (by omega)]; omega) (by omega)]
theorem letter_no {s : ByteArray} (h : s.size ≠ 8) (k : Nat) : awardingbodyref04_Letter.f k s = some ((⟨#[]⟩ : ByteArray), 7) := by
  unfold awardingbodyref04_Letter.f; rw [if_neg (by omega)]
theorem letter_ill {s : ByteArray} (hs : s.size = 8) {j : Int} (h0 : 0 ≤ j) (hj : j < 8) (hb : ¬ dig (bt s j)) {k : Nat} (hk : 30 ≤ k) : awardingbodyref04_Letter.f k s = some ((⟨#[]⟩ : ByteArray), 7) := by
  unfold awardingbodyref04_Letter.f
  rw [if_pos (by omega), letter_bad s hs j hj hb j.toNat 0 0 k (by omega) (by omega) (by omega)]
theorem letter_ok {b0 b1 b2 b3 b4 b5 b6 b7 : Int} (d0 : dig b0) (d1 : dig b1) (d2 : dig b2) (d3 : dig b3) (d4 : dig b4) (d5 : dig b5) (d6 : dig b6) (d7 : dig b7) {k : Nat} (hk : 30 ≤ k) :
    awardingbodyref04_Letter.f k (strOfNums [b0, b1, b2, b3, b4, b5, b6, b7]) = some (strOfNums [cl b0 b1 b2 b3 b4 b5 b6 b7], 0) := by
  obtain ⟨k, rfl⟩ : ∃ m, k = m + 1 + 1 + 1 + 1 + 1 + 1 + 1 + 1 + 1 := ⟨k - 9, by omega⟩
  unfold awardingbodyref04_Letter.f
  have hs : (strOfNums [b0, b1, b2, b3, b4, b5, b6, b7]).size = 8 := by rw [strOfNums_size]; rfl
  have hd := d0; have := d1; have := d2; have := d3; have := d4; have := d5; have := d6; have := d7
  unfold dig at *
  rw [if_pos (by omega),
    letter_step _ _ 0 0 1 b0 (x' := b0 - 48) (by omega) (by omega) hs rfl (bt_son _ _ (by omega) _ rfl (by omega)) d0 (by omega) (by omega) (by omega),
    letter_step _ _ _ 1 2 b1 (x' := b0 + 2 * b1 - 144) (by omega) (by omega) hs rfl (bt_son _ _ (by omega) _ rfl (by omega)) d1 (by omega) (by omega) (by omega),
    letter_step _ _ _ 2 3 b2 (x' := b0 + 2 * b1 + 3 * b2 - 288) (by omega) (by omega) hs rfl (bt_son _ _ (by omega) _ rfl (by omega)) d2 (by omega) (by omega) (by omega),
    letter_step _ _ _ 3 4 b3 (x' := b0 + 2 * b1 + 3 * b2 + 4 * b3 - 480) (by omega) (by omega) hs rfl (bt_son _ _ (by omega) _ rfl (by omega)) d3 (by omega) (by omega) (by omega),
    letter_step _ _ _ 4 5 b4 (x' := b0 + 2 * b1 + 3 * b2 + 4 * b3 + 5 * b4 - 720) (by omega) (by omega) hs rfl (bt_son _ _ (by omega) _ rfl (by omega)) d4 (by omega) (by omega) (by omega),
    letter_step _ _ _ 5 6 b5 (x' := b0 + 2 * b1 + 3 * b2 + 4 * b3 + 5 * b4 + 6 * b5 - 1008) (by omega) (by omega) hs rfl (bt_son _ _ (by omega) _ rfl (by omega)) d5 (by omega) (by omega) (by omega),
    letter_step _ _ _ 6 7 b6 (x' := b0 + 2 * b1 + 3 * b2 + 4 * b3 + 5 * b4 + 6 * b5 + 7 * b6 - 1344) (by omega) (by omega) hs rfl (bt_son _ _ (by omega) _ rfl (by omega)) d6 (by omega) (by omega) (by omega),
    letter_step _ _ _ 7 8 b7 (x' := sm b0 b1 b2 b3 b4 b5 b6 b7) (by omega) (by omega) hs rfl (bt_son _ _ (by omega) _ rfl (by omega)) d7 (by unfold sm; omega) (by omega) (by omega),
    letter_end _ _ _ (by unfold sm; omega) (by unfold sm; omega)]
  rfl

/-! read -/
theorem at_of (i : Int) : identity_at.f i = some (if i = 8 then LS else DS) := by unfold identity_at.f; split <;> rfl
theorem ib_fit {i x : Int} (h0 : 0 ≤ i) (h1 : i < 9) (h : 0 ≤ x ∧ x < 256) : (Go.Lib.indexByte ((if i = 8 then LS else DS) ++ (⟨#[]⟩ : ByteArray)).data.toList x.toNat.toUInt8 < 0) ↔ ¬ fit i x := by
  unfold fit
  by_cases hi : i = 8
  · rw [if_pos hi, if_neg (by omega)]; exact ib_L h
  · rw [if_neg hi, if_pos (by omega)]; exact ib_D h
theorem at_size (i : Int) : (if i = 8 then LS else DS).size + (⟨#[]⟩ : ByteArray).size ≤ 9223372036854775807 := by
  split <;> decide
theorem read_step (k : Nat) (s : ByteArray) (i : Int) {i' b x0 x1 x2 x3 x4 x5 x6 x7 x8 : Int} (h0 : 0 ≤ i) (h1 : i < 9) (hs : s.size = 9) (hi : i' = i + 1) (hb : bt s i = b) (hf : fit i b) :
    identity_read.l0 (k + 1) s (⟨#[]⟩ : ByteArray) i x0 x1 x2 x3 x4 x5 x6 x7 x8 = identity_read.l0 k s (⟨#[]⟩ : ByteArray) i' (sx 0 i b x0) (sx 1 i b x1) (sx 2 i b x2) (sx 3 i b x3) (sx 4 i b x4) (sx 5 i b x5) (sx 6 i b x6) (sx 7 i b x7) (sx 8 i b x8) := by
  have r := bt_range s i
  simp only [identity_read.l0]
  rw [if_pos h1, if_pos h0, if_pos (by omega), at_of]
  rw [Option.bind_some, if_pos (at_size i)]
  unfold strings_IndexByte.f
  rw [Option.bind_some, if_neg (fun h => (ib_fit h0 h1 (by omega)).mp h (by rw [hb]; exact hf)), hb, w64 (by omega) (by omega), ← hi]
abbrev N9 := Int × Int × Int × Int × Int × Int × Int × Int × Int × Bool
theorem read_bad (s : ByteArray) (hs : s.size = 9) (j : Int) (hj : j < 9) (hb : ¬ fit j (bt s j)) : ∀ (d : Nat) (i x0 x1 x2 x3 x4 x5 x6 x7 x8 : Int) (k : Nat), j - i = d → 0 ≤ i → d < k → ∃ r : N9, r.2.2.2.2.2.2.2.2.2 = false ∧ identity_read.l0 k s (⟨#[]⟩ : ByteArray) i x0 x1 x2 x3 x4 x5 x6 x7 x8 = some r := by
  intro d
  induction d with
  | zero =>
    intro i x0 x1 x2 x3 x4 x5 x6 x7 x8 k hd h0 hk
    obtain ⟨k, rfl⟩ : ∃ m, k = m + 1 := ⟨k - 1, by omega⟩
    obtain rfl : i = j := by omega
    have r := bt_range s i
    simp only [identity_read.l0]
    rw [if_pos hj, if_pos h0, if_pos (by omega), at_of]
    rw [Option.bind_some, if_pos (at_size i)]
    unfold strings_IndexByte.f
    rw [Option.bind_some, if_pos ((ib_fit h0 hj (by omega)).mpr hb)]
    exact ⟨_, rfl, rfl⟩
  | succ d ih =>
    intro i x0 x1 x2 x3 x4 x5 x6 x7 x8 k hd h0 hk
    obtain ⟨k, rfl⟩ : ∃ m, k = m + 1 := ⟨k - 1, by omega⟩
    have r := bt_range s i
    by_cases hf : fit i (bt s i)
    · rw [read_step k s i h0 (by omega) hs rfl rfl hf]
      exact ih _ _ _ _ _ _ _ _ _ _ k (by omega) (by omega) (by omega)
    · simp only [identity_read.l0]
      rw [if_pos (by omega), if_pos h0, if_pos (by omega), at_of]
      rw [Option.bind_some, if_pos (at_size i)]
      unfold strings_IndexByte.f
      rw [Option.bind_some, if_pos ((ib_fit h0 (by omega) (by omega)).mpr hf)]
      exact ⟨_, rfl, rfl⟩
theorem read_no {s : ByteArray} (h : s.size ≠ 9) (k : Nat) : ∃ r : N9, r.2.2.2.2.2.2.2.2.2 = false ∧ identity_read.f k s (⟨#[]⟩ : ByteArray) = some r := by
  unfold identity_read.f; rw [if_neg (by omega)]; exact ⟨_, rfl, rfl⟩
theorem read_ill {s : ByteArray} (hs : s.size = 9) {j : Int} (h0 : 0 ≤ j) (hj : j < 9) (hb : ¬ fit j (bt s j)) {k : Nat} (hk : 30 ≤ k) : ∃ r : N9, r.2.2.2.2.2.2.2.2.2 = false ∧ identity_read.f k s (⟨#[]⟩ : ByteArray) = some r := by
  unfold identity_read.f
  rw [if_pos (by omega)]
  exact read_bad s hs j hj hb j.toNat 0 _ _ _ _ _ _ _ _ _ k (by omega) (by omega) (by omega)
/-- a well formed number -/
structure Form (b0 b1 b2 b3 b4 b5 b6 b7 b8 : Int) : Prop where
  d0 : dig b0
  d1 : dig b1
  d2 : dig b2
  d3 : dig b3
  d4 : dig b4
  d5 : dig b5
  d6 : dig b6
  d7 : dig b7
  d8 : let' b8
theorem Form.u8 {b0 b1 b2 b3 b4 b5 b6 b7 b8 : Int} (h : Form b0 b1 b2 b3 b4 b5 b6 b7 b8) : ∀ x ∈ [b0, b1, b2, b3, b4, b5, b6, b7, b8], 0 ≤ x ∧ x < 256 := by
  obtain ⟨d0, d1, d2, d3, d4, d5, d6, d7, d8⟩ := h
  unfold dig at *; unfold let' at *
  intro x hx
  simp only [List.mem_cons, List.not_mem_nil, or_false] at hx
  omega
theorem read_ok {b0 b1 b2 b3 b4 b5 b6 b7 b8 : Int} (h : Form b0 b1 b2 b3 b4 b5 b6 b7 b8) {k : Nat} (hk : 30 ≤ k) :
    identity_read.f k (strOfNums [b0, b1, b2, b3, b4, b5, b6, b7, b8]) (⟨#[]⟩ : ByteArray) = some (b0, b1, b2, b3, b4, b5, b6, b7, b8, true) := by
  obtain ⟨k, rfl⟩ : ∃ m, k = m + 1 + 1 + 1 + 1 + 1 + 1 + 1 + 1 + 1 + 1 := ⟨k - 10, by omega⟩
  have hs : (strOfNums [b0, b1, b2, b3, b4, b5, b6, b7, b8]).size = 9 := by rw [strOfNums_size]; rfl
  have u := h.u8
  simp only [List.mem_cons, List.not_mem_nil, or_false, forall_eq_or_imp, forall_eq] at u
  obtain ⟨u0, u1, u2, u3, u4, u5, u6, u7, u8⟩ := u
  unfold identity_read.f
  rw [if_pos (by omega),
    read_step _ _ 0 (i' := 1) (by omega) (by omega) hs rfl (bt_son _ _ (by omega) _ rfl u0) h.d0,
    read_step _ _ 1 (i' := 2) (by omega) (by omega) hs rfl (bt_son _ _ (by omega) _ rfl u1) h.d1,
    read_step _ _ 2 (i' := 3) (by omega) (by omega) hs rfl (bt_son _ _ (by omega) _ rfl u2) h.d2,
    read_step _ _ 3 (i' := 4) (by omega) (by omega) hs rfl (bt_son _ _ (by omega) _ rfl u3) h.d3,
    read_step _ _ 4 (i' := 5) (by omega) (by omega) hs rfl (bt_son _ _ (by omega) _ rfl u4) h.d4,
    read_step _ _ 5 (i' := 6) (by omega) (by omega) hs rfl (bt_son _ _ (by omega) _ rfl u5) h.d5,
    read_step _ _ 6 (i' := 7) (by omega) (by omega) hs rfl (bt_son _ _ (by omega) _ rfl u6) h.d6,
    read_step _ _ 7 (i' := 8) (by omega) (by omega) hs rfl (bt_son _ _ (by omega) _ rfl u7) h.d7,
    read_step _ _ 8 (i' := 9) (by omega) (by omega) hs rfl (bt_son _ _ (by omega) _ rfl u8) h.d8]
  simp only [identity_read.l0]
  rw [if_neg (by omega)]
  rfl
/-- the shape of a text -/
theorem form_or {b0 b1 b2 b3 b4 b5 b6 b7 b8 : Int} (u : ∀ x ∈ [b0, b1, b2, b3, b4, b5, b6, b7, b8], 0 ≤ x ∧ x < 256) : Form b0 b1 b2 b3 b4 b5 b6 b7 b8 ∨ ∃ j : Int, 0 ≤ j ∧ j < 9 ∧ ¬ fit j (bt (strOfNums [b0, b1, b2, b3, b4, b5, b6, b7, b8]) j) := by
  simp only [List.mem_cons, List.not_mem_nil, or_false, forall_eq_or_imp, forall_eq] at u
  obtain ⟨u0, u1, u2, u3, u4, u5, u6, u7, u8⟩ := u
  by_cases d0 : dig b0
  case neg => exact Or.inr ⟨0, by omega, by omega, by rw [bt_son _ _ (by omega) _ rfl u0]; exact d0⟩
  by_cases d1 : dig b1
  case neg => exact Or.inr ⟨1, by omega, by omega, by rw [bt_son _ _ (by omega) _ rfl u1]; exact d1⟩
  by_cases d2 : dig b2
  case neg => exact Or.inr ⟨2, by omega, by omega, by rw [bt_son _ _ (by omega) _ rfl u2]; exact d2⟩
  by_cases d3 : dig b3
  case neg => exact Or.inr ⟨3, by omega, by omega, by rw [bt_son _ _ (by omega) _ rfl u3]; exact d3⟩
  by_cases d4 : dig b4
  case neg => exact Or.inr ⟨4, by omega, by omega, by rw [bt_son _ _ (by omega) _ rfl u4]; exact d4⟩
  by_cases d5 : dig b5
  case neg => exact Or.inr ⟨5, by omega, by omega, by rw [bt_son _ _ (by omega) _ rfl u5]; exact d5⟩
  by_cases d6 : dig b6
  case neg => exact Or.inr ⟨6, by omega, by omega, by rw [bt_son _ _ (by omega) _ rfl u6]; exact d6⟩
  by_cases d7 : dig b7
  case neg => exact Or.inr ⟨7, by omega, by omega, by rw [bt_son _ _ (by omega) _ rfl u7]; exact d7⟩
  by_cases d8 : let' b8
  case neg => exact Or.inr ⟨8, by omega, by omega, by rw [bt_son _ _ (by omega) _ rfl u8]; exact d8⟩
  exact Or.inl ⟨d0, d1, d2, d3, d4, d5, d6, d7, d8⟩

/-! the reference's shape -/
theorem Form.fits {b0 b1 b2 b3 b4 b5 b6 b7 b8 : Int} (h : Form b0 b1 b2 b3 b4 b5 b6 b7 b8) : ∀ j : Int, 0 ≤ j → j < 9 → fit j (bt (strOfNums [b0, b1, b2, b3, b4, b5, b6, b7, b8]) j) := by
  intro j h0 h1
  have u := h.u8
  simp only [List.mem_cons, List.not_mem_nil, or_false, forall_eq_or_imp, forall_eq] at u
  obtain ⟨u0, u1, u2, u3, u4, u5, u6, u7, u8⟩ := u
  obtain rfl | rfl | rfl | rfl | rfl | rfl | rfl | rfl | rfl : j = 0 ∨ j = 1 ∨ j = 2 ∨ j = 3 ∨ j = 4 ∨ j = 5 ∨ j = 6 ∨ j = 7 ∨ j = 8 := by omega
  · rw [bt_son _ _ (by omega) _ rfl u0]; exact h.d0
  · rw [bt_son _ _ (by omega) _ rfl u1]; exact h.d1
  · rw [bt_son _ _ (by omega) _ rfl u2]; exact h.d2
  · rw [bt_son _ _ (by omega) _ rfl u3]; exact h.d3
  · rw [bt_son _ _ (by omega) _ rfl u4]; exact h.d4
  · rw [bt_son _ _ (by omega) _ rfl u5]; exact h.d5
  · rw [bt_son _ _ (by omega) _ rfl u6]; exact h.d6
  · rw [bt_son _ _ (by omega) _ rfl u7]; exact h.d7
  · rw [bt_son _ _ (by omega) _ rfl u8]; exact h.d8

/-! both Parse -/
def val (c0 c1 c2 c3 c4 c5 c6 c7 : Int) : Int := 10000000 * c0 + 1000000 * c1 + 100000 * c2 + 10000 * c3 + 1000 * c4 + 100 * c5 + 10 * c6 + c7 - 533333328
theorem iparse_step (k : Nat) (x i i' b : Int) {x' b0 b1 b2 b3 b4 b5 b6 b7 b8 : Int} (h0 : 0 ≤ i) (h1 : i < 8) (hi : i' = i + 1) (hb : ix9 i b0 b1 b2 b3 b4 b5 b6 b7 b8 = b) (hd : dig b) (hx : x' = x * 10 + (b - 48)) (hl : 0 ≤ x) (hu : x ≤ 100000000) :
    identity_Parse.l0 (k + 1) x 8 i b0 b1 b2 b3 b4 b5 b6 b7 b8 = identity_Parse.l0 k x' 8 i' b0 b1 b2 b3 b4 b5 b6 b7 b8 := by
  have := hd; unfold dig at this
  subst hx
  simp only [identity_Parse.l0]
  rw [if_pos h1, if_pos h0, if_pos h1, w64 (x := i + 1) (by omega) (by omega), hb, ← hi, w64 (x := x * 10) (by omega) (by omega), show (b - 48) % 256 = b - 48 by omega, w64 (by omega) (by omega)]
def cut3 (v : Int) : Int × Int × Int × Int := (v / 1000000, v / 10000 % 100, v % 10000, 0)
theorem cut3_of {v : Int} (h0 : 0 ≤ v) (h1 : v ≤ 100000000) : (wrap64 (Int.tdiv v 1000000), Int.tmod (wrap64 (Int.tdiv v 10000)) 100, Int.tmod v 10000, (0 : Int)) = cut3 v := by
  unfold cut3
  rw [Int.tdiv_eq_ediv_of_nonneg h0, Int.tdiv_eq_ediv_of_nonneg h0, w64 (by omega) (by omega), w64 (by omega) (by omega), Int.tmod_eq_emod_of_nonneg (by omega), Int.tmod_eq_emod_of_nonneg h0]
theorem iparse_l0 {b0 b1 b2 b3 b4 b5 b6 b7 b8 : Int} (h : Form b0 b1 b2 b3 b4 b5 b6 b7 b8) {k : Nat} (hk : 30 ≤ k) : identity_Parse.l0 k 0 8 0 b0 b1 b2 b3 b4 b5 b6 b7 b8 = some (cut3 (val b0 b1 b2 b3 b4 b5 b6 b7)) := by
  obtain ⟨k, rfl⟩ : ∃ m, k = m + 1 + 1 + 1 + 1 + 1 + 1 + 1 + 1 + 1 := ⟨k - 9, by omega⟩
  obtain ⟨d0, d1, d2, d3, d4, d5, d6, d7, d8⟩ := h
  have := d0; have := d1; have := d2; have := d3; have := d4; have := d5; have := d6; have := d7
  unfold dig at *
  rw [iparse_step _ 0 0 1 b0 (x' := b0 - 48) (by omega) (by omega) rfl rfl d0 (by omega) (by omega) (by omega),
    iparse_step _ _ 1 2 b1 (x' := 10 * b0 + b1 - 528) (by omega) (by omega) rfl rfl d1 (by omega) (by omega) (by omega),
    iparse_step _ _ 2 3 b2 (x' := 100 * b0 + 10 * b1 + b2 - 5328) (by omega) (by omega) rfl rfl d2 (by omega) (by omega) (by omega),
    iparse_step _ _ 3 4 b3 (x' := 1000 * b0 + 100 * b1 + 10 * b2 + b3 - 53328) (by omega) (by omega) rfl rfl d3 (by omega) (by omega) (by omega),
    iparse_step _ _ 4 5 b4 (x' := 10000 * b0 + 1000 * b1 + 100 * b2 + 10 * b3 + b4 - 533328) (by omega) (by omega) rfl rfl d4 (by omega) (by omega) (by omega),
    iparse_step _ _ 5 6 b5 (x' := 100000 * b0 + 10000 * b1 + 1000 * b2 + 100 * b3 + 10 * b4 + b5 - 5333328) (by omega) (by omega) rfl rfl d5 (by omega) (by omega) (by omega),
    iparse_step _ _ 6 7 b6 (x' := 1000000 * b0 + 100000 * b1 + 10000 * b2 + 1000 * b3 + 100 * b4 + 10 * b5 + b6 - 53333328) (by omega) (by omega) rfl rfl d6 (by omega) (by omega) (by omega),
    iparse_step _ _ 7 8 b7 (x' := val b0 b1 b2 b3 b4 b5 b6 b7) (by omega) (by omega) rfl rfl d7 (by unfold val; omega) (by omega) (by omega)]
  simp only [identity_Parse.l0]
  rw [if_neg (by omega), cut3_of (by unfold val; omega) (by unfold val; omega)]
/-- what Parse answers for a well formed number -/
def pv (b0 b1 b2 b3 b4 b5 b6 b7 b8 : Int) : Int × Int × Int × Int := if b8 = cl b0 b1 b2 b3 b4 b5 b6 b7 then cut3 (val b0 b1 b2 b3 b4 b5 b6 b7) else (0, 0, 0, 24)
theorem iparse_ok {b0 b1 b2 b3 b4 b5 b6 b7 b8 : Int} (h : Form b0 b1 b2 b3 b4 b5 b6 b7 b8) {k : Nat} (hk : 60 ≤ k) : identity_Parse.f k (strOfNums [b0, b1, b2, b3, b4, b5, b6, b7, b8]) = some (pv b0 b1 b2 b3 b4 b5 b6 b7 b8) := by
  unfold identity_Parse.f
  rw [read_ok h (by omega), Option.bind_some, if_pos rfl]
  unfold identity_number_right.f
  rw [check_ok b8 h.d0 h.d1 h.d2 h.d3 h.d4 h.d5 h.d6 h.d7 (by omega), Option.bind_some, Option.bind_some]
  unfold pv
  by_cases e : b8 = cl b0 b1 b2 b3 b4 b5 b6 b7
  · rw [if_pos (by simpa using e), if_pos e, iparse_l0 h (by omega)]
  · rw [if_neg (by simpa using e), if_neg e]
theorem son_one {a b : Int} (ha : 0 ≤ a ∧ a < 256) (hb : 0 ≤ b ∧ b < 256) : (strOfNums [a]).toList = (strOfNums [b]).toList ↔ a = b := by
  constructor
  · intro h
    rw [toList_inj] at h
    have h' : bt (strOfNums [a]) 0 = bt (strOfNums [b]) 0 := by rw [h]
    rwa [bt_son _ _ (by omega) _ rfl ha, bt_son _ _ (by omega) _ rfl hb] at h'
  · rintro rfl; rfl
theorem cut_ok {a n : Int} (h1 : 1 ≤ n) (h2 : n ≤ 1000000000) (ha : -9223372036854775808 ≤ a ∧ a ≤ 9223372036854775807) : awardingbodymake_Cut.f a n = some (a % n) := by
  unfold awardingbodymake_Cut.f
  rw [if_neg (by omega), if_neg (by omega)]
  have e := Int.emod_nonneg a (show n ≠ 0 by omega)
  have l := Int.emod_lt_of_pos a (show 0 < n by omega)
  have ht : Int.tmod a n = a % n ∨ (Int.tmod a n = a % n - n ∧ a % n ≠ 0) := by
    rw [Int.tmod_eq_emod]
    split
    · left; omega
    · rename_i h
      right
      rw [Int.natAbs_of_nonneg (by omega)]
      refine ⟨rfl, fun z => h (Or.inr ?_)⟩
      exact Int.dvd_of_emod_eq_zero z
  rcases ht with ht | ⟨ht, -⟩
  · rw [ht, if_neg (by omega)]
  · rw [ht, if_pos (by omega), w64 (by omega) (by omega)]
    congr 1; omega
def valid (c y n : Int) : Prop := 0 ≤ c ∧ c ≤ 99 ∧ 0 ≤ y ∧ y ≤ 99 ∧ 0 ≤ n ∧ n ≤ 9999
instance (c y n : Int) : Decidable (valid c y n) := by unfold valid; infer_instance
theorem valid_of (c y n : Int) : identity_Valid.f c y n = some (decide (valid c y n)) := by
  unfold identity_Valid.f valid
  by_cases h1 : 0 ≤ c
  case neg => rw [if_neg (by omega)]; simp [h1]
  by_cases h2 : c ≤ 99
  case neg => rw [if_pos h1, if_neg h2]; simp [h2]
  by_cases h3 : 0 ≤ y
  case neg => rw [if_pos h1, if_pos h2, if_neg (by omega)]; simp [h3]
  by_cases h4 : y ≤ 99
  case neg => rw [if_pos h1, if_pos h2, if_pos h3, if_neg h4]; simp [h4]
  by_cases h5 : 0 ≤ n
  case neg => rw [if_pos h1, if_pos h2, if_pos h3, if_pos h4, if_neg (by omega)]; simp [h5]
  rw [if_pos h1, if_pos h2, if_pos h3, if_pos h4, if_pos h5]; simp [h1, h2, h3, h4, h5]
theorem rvalid_of (c y n : Int) : awardingbodyref04_Valid.f c y n = some (decide (valid c y n)) := valid_of c y n

/-! Format -/
theorem padded_step (k : Nat) (x n : Int) (l : List Int) (i i' : Int) (hl : l.length ≤ 9) (h0 : 0 ≤ i) (hn : i < n) (hn' : n ≤ 9) (hi : i' = i + 1) (hx : 0 ≤ x) (hu : x ≤ 100000) :
    awardingbodyref04_Padded.l0 (k + 1) x n (strOfNums l) i = awardingbodyref04_Padded.l0 k (x / 10) n (strOfNums ((48 + x % 10) :: l)) i' := by
  subst hi
  simp only [awardingbodyref04_Padded.l0]
  rw [if_pos hn, Option.bind_some, if_pos (by rw [strOfNums_size, strOfNums_size]; simp; omega), Int.tmod_eq_emod_of_nonneg hx, Int.tdiv_eq_ediv_of_nonneg hx, w64 (by omega) (by omega), w64 (by omega) (by omega), w64 (by omega) (by omega), son_append]
  rw [show (48 + x % 10) % 256 = 48 + x % 10 by omega]; rfl
theorem padded_end (k : Nat) (x n : Int) (s : ByteArray) : awardingbodyref04_Padded.l0 (k + 1) x n s n = some s := by
  simp only [awardingbodyref04_Padded.l0]
  rw [if_neg (by omega)]
theorem padded2 {x : Int} (h0 : 0 ≤ x) (h1 : x ≤ 99) {k : Nat} (hk : 30 ≤ k) : awardingbodyref04_Padded.f k x 2 = some (strOfNums [48 + x / 10, 48 + x % 10]) := by
  obtain ⟨k, rfl⟩ : ∃ m, k = m + 1 + 1 + 1 := ⟨k - 3, by omega⟩
  unfold awardingbodyref04_Padded.f
  rw [show (⟨#[]⟩ : ByteArray) = strOfNums [] from rfl, padded_step _ _ _ _ 0 1 (by decide) (by omega) (by omega) (by omega) rfl (by omega) (by omega),
    padded_step _ _ _ _ 1 2 (by simp) (by omega) (by omega) (by omega) rfl (by omega) (by omega), padded_end, show x / 10 % 10 = x / 10 by omega]
theorem padded4 {x : Int} (h0 : 0 ≤ x) (h1 : x ≤ 9999) {k : Nat} (hk : 30 ≤ k) : awardingbodyref04_Padded.f k x 4 = some (strOfNums [48 + x / 1000, 48 + x / 100 % 10, 48 + x / 10 % 10, 48 + x % 10]) := by
  obtain ⟨k, rfl⟩ : ∃ m, k = m + 1 + 1 + 1 + 1 + 1 := ⟨k - 5, by omega⟩
  unfold awardingbodyref04_Padded.f
  rw [show (⟨#[]⟩ : ByteArray) = strOfNums [] from rfl, padded_step _ _ _ _ 0 1 (by decide) (by omega) (by omega) (by omega) rfl (by omega) (by omega),
    padded_step _ _ _ _ 1 2 (by simp) (by omega) (by omega) (by omega) rfl (by omega) (by omega), padded_step _ _ _ _ 2 3 (by simp) (by omega) (by omega) (by omega) rfl (by omega) (by omega),
    padded_step _ _ _ _ 3 4 (by simp) (by omega) (by omega) (by omega) rfl (by omega) (by omega), padded_end, show x / 10 / 10 / 10 % 10 = x / 1000 by omega, show x / 10 / 10 % 10 = x / 100 % 10 by omega]
theorem iformat_step (k : Nat) (x i : Int) {i' a0 a1 a2 a3 a4 a5 a6 a7 a8 : Int} (h0 : 0 ≤ i) (h1 : i < 9) (hi : i' = i - 1) (hx : 0 ≤ x) (hu : x ≤ 1000000000) :
    identity_Format.l0 (k + 1) x i a0 a1 a2 a3 a4 a5 a6 a7 a8 = identity_Format.l0 k (x / 10) i' (sx 0 i (48 + x % 10) a0) (sx 1 i (48 + x % 10) a1) (sx 2 i (48 + x % 10) a2) (sx 3 i (48 + x % 10) a3) (sx 4 i (48 + x % 10) a4) (sx 5 i (48 + x % 10) a5) (sx 6 i (48 + x % 10) a6) (sx 7 i (48 + x % 10) a7) (sx 8 i (48 + x % 10) a8) := by
  subst hi
  simp only [identity_Format.l0]
  rw [if_pos h0, Int.tmod_eq_emod_of_nonneg hx, if_pos (by omega), if_pos (by omega), if_pos h0, if_pos h1, bt_DS (by omega) (by omega), Int.tdiv_eq_ediv_of_nonneg hx, w64 (by omega) (by omega), w64 (by omega) (by omega)]
/-- the text of an ID -/
def c8 (c y n : Int) : Int := cl (48 + c / 10) (48 + c % 10) (48 + y / 10) (48 + y % 10) (48 + n / 1000) (48 + n / 100 % 10) (48 + n / 10 % 10) (48 + n % 10)
def fm (c y n : Int) : ByteArray := strOfNums [48 + c / 10, 48 + c % 10, 48 + y / 10, 48 + y % 10, 48 + n / 1000, 48 + n / 100 % 10, 48 + n / 10 % 10, 48 + n % 10, c8 c y n]
theorem fm_form {c y n : Int} (h : valid c y n) : Form (48 + c / 10) (48 + c % 10) (48 + y / 10) (48 + y % 10) (48 + n / 1000) (48 + n / 100 % 10) (48 + n / 10 % 10) (48 + n % 10) (c8 c y n) := by
  obtain ⟨h0, h1, h2, h3, h4, h5⟩ := h
  refine ⟨?_, ?_, ?_, ?_, ?_, ?_, ?_, ?_, cl_let ..⟩ <;> (unfold dig; omega)
theorem iformat_ok {c y n : Int} (h : valid c y n) {k : Nat} (hk : 60 ≤ k) : identity_Format.f k c y n = some (fm c y n, 0) := by
  obtain ⟨k, rfl⟩ : ∃ m, k = m + 1 + 1 + 1 + 1 + 1 + 1 + 1 + 1 + 1 := ⟨k - 9, by omega⟩
  have hf := fm_form h
  obtain ⟨h0, h1, h2, h3, h4, h5⟩ := id h
  unfold identity_Format.f
  rw [valid_of, Option.bind_some, if_pos (by simpa using h)]
  rw [w64 (x := c * 100) (by omega) (by omega), w64 (x := c * 100 + y) (by omega) (by omega), w64 (x := (c * 100 + y) * 10000) (by omega) (by omega), w64 (by omega) (by omega)]
  generalize hv : (c * 100 + y) * 10000 + n = v
  have hv0 : 0 ≤ v := by omega
  have hv1 : v ≤ 100000000 := by omega
  rw [iformat_step _ _ 7 (i' := 6) (by omega) (by omega) rfl (by omega) (by omega), iformat_step _ _ 6 (i' := 5) (by omega) (by omega) rfl (by omega) (by omega),
    iformat_step _ _ 5 (i' := 4) (by omega) (by omega) rfl (by omega) (by omega), iformat_step _ _ 4 (i' := 3) (by omega) (by omega) rfl (by omega) (by omega),
    iformat_step _ _ 3 (i' := 2) (by omega) (by omega) rfl (by omega) (by omega), iformat_step _ _ 2 (i' := 1) (by omega) (by omega) rfl (by omega) (by omega),
    iformat_step _ _ 1 (i' := 0) (by omega) (by omega) rfl (by omega) (by omega), iformat_step _ _ 0 (i' := -1) (by omega) (by omega) rfl (by omega) (by omega)]
  have e : ∀ (X : Int) (k : Nat), 30 ≤ k → identity_Format.l0 (k + 1) X (-1) (48 + c / 10) (48 + c % 10) (48 + y / 10) (48 + y % 10) (48 + n / 1000) (48 + n / 100 % 10) (48 + n / 10 % 10) (48 + n % 10) 0 = some (fm c y n, 0) := by
    intro X k hk
    simp only [identity_Format.l0]
    rw [if_neg (by omega), check_ok 0 hf.d0 hf.d1 hf.d2 hf.d3 hf.d4 hf.d5 hf.d6 hf.d7 hk]
    rfl
  rw [show c / 10 = v / 10 / 10 / 10 / 10 / 10 / 10 / 10 % 10 by omega, show c % 10 = v / 10 / 10 / 10 / 10 / 10 / 10 % 10 by omega, show y / 10 = v / 10 / 10 / 10 / 10 / 10 % 10 by omega, show y % 10 = v / 10 / 10 / 10 / 10 % 10 by omega,
    show n / 1000 = v / 10 / 10 / 10 % 10 by omega, show n / 100 % 10 = v / 10 / 10 % 10 by omega, show n / 10 % 10 = v / 10 % 10 by omega, show n % 10 = v % 10 by omega] at e
  exact e _ _ (by omega)
theorem rformat_ok {c y n : Int} (h : valid c y n) {k : Nat} (hk : 60 ≤ k) : awardingbodyref04_Format.f k c y n = some (fm c y n, 0) := by
  have hf := fm_form h
  obtain ⟨h0, h1, h2, h3, h4, h5⟩ := id h
  unfold awardingbodyref04_Format.f
  rw [rvalid_of, Option.bind_some, if_pos (by simpa using h), padded2 h0 h1 (by omega), Option.bind_some, padded2 h2 h3 (by omega), Option.bind_some, if_pos (by simp only [strOfNums_size, List.length_cons, List.length_nil]; omega),
    padded4 h4 h5 (by omega), Option.bind_some, if_pos (by simp only [strOfNums_size, List.length_cons, List.length_nil]; omega), son_append, son_append]
  have e := letter_ok hf.d0 hf.d1 hf.d2 hf.d3 hf.d4 hf.d5 hf.d6 hf.d7 (k := k) (by omega)
  simp only [List.cons_append, List.nil_append]
  rw [e, Option.bind_some, if_pos (by simp only [strOfNums_size, List.length_cons, List.length_nil]; omega), son_append]
  rfl
def fv (c y n : Int) : ByteArray × Int := if valid c y n then (fm c y n, 0) else ((⟨#[]⟩ : ByteArray), 2)
theorem iformat (c y n : Int) {k : Nat} (hk : 60 ≤ k) : identity_Format.f k c y n = some (fv c y n) := by
  unfold fv
  by_cases h : valid c y n
  · rw [if_pos h, iformat_ok h hk]
  · unfold identity_Format.f
    rw [valid_of, Option.bind_some, if_neg (by simpa using h), if_neg h]
theorem rformat (c y n : Int) {k : Nat} (hk : 60 ≤ k) : awardingbodyref04_Format.f k c y n = some (fv c y n) := by
  unfold fv
  by_cases h : valid c y n
  · rw [if_pos h, rformat_ok h hk]
  · unfold awardingbodyref04_Format.f
    rw [rvalid_of, Option.bind_some, if_neg (by simpa using h), if_neg h]
theorem awake_ok {k : Nat} (hk : 60 ≤ k) : awardingbodylaw04_awake.f k = some true :=
  at_rounds (g := fun k => awardingbodylaw04_awake.f k) (fun k => awardingbodylaw04_awake.mono k) hk (by decide +kernel)

/-! the laws' numbers -/
def nc (n : Int) : Int := n % 100000000 / 1000000
def ny (n : Int) : Int := n % 100000000 / 10000 % 100
def nn (n : Int) : Int := n % 100000000 % 10000
theorem n_valid (n : Int) : valid (nc n) (ny n) (nn n) := by unfold valid nc ny nn; omega
theorem n_parts {n : Int} (h : -9223372036854775808 ≤ n ∧ n ≤ 9223372036854775807) : wrap64 (Int.tdiv (n % 100000000) 1000000) = nc n ∧ Int.tmod (wrap64 (Int.tdiv (n % 100000000) 10000)) 100 = ny n ∧ Int.tmod (n % 100000000) 10000 = nn n := by
  have h0 : 0 ≤ n % 100000000 := by omega
  refine ⟨?_, ?_, ?_⟩
  · rw [Int.tdiv_eq_ediv_of_nonneg h0, w64 (by omega) (by omega)]; rfl
  · rw [Int.tdiv_eq_ediv_of_nonneg h0, w64 (by omega) (by omega), Int.tmod_eq_emod_of_nonneg (by omega)]; rfl
  · rw [Int.tmod_eq_emod_of_nonneg h0]; rfl
theorem number_ok {n : Int} (h : -9223372036854775808 ≤ n ∧ n ≤ 9223372036854775807) {k : Nat} (hk : 60 ≤ k) : awardingbodylaw04_number.f k n = some (fm (nc n) (ny n) (nn n)) := by
  unfold awardingbodylaw04_number.f
  obtain ⟨e1, e2, e3⟩ := n_parts h
  rw [cut_ok (by omega) (by omega) h, Option.bind_some, e1, e2, e3, rformat_ok (n_valid n) hk]; rfl
theorem val_fm {c y n : Int} (h : valid c y n) : cut3 (val (48 + c / 10) (48 + c % 10) (48 + y / 10) (48 + y % 10) (48 + n / 1000) (48 + n / 100 % 10) (48 + n / 10 % 10) (48 + n % 10)) = (c, y, n, 0) := by
  obtain ⟨h0, h1, h2, h3, h4, h5⟩ := h
  have e : val (48 + c / 10) (48 + c % 10) (48 + y / 10) (48 + y % 10) (48 + n / 1000) (48 + n / 100 % 10) (48 + n / 10 % 10) (48 + n % 10) = 1000000 * c + 10000 * y + n := by unfold val; omega
  rw [e]; unfold cut3
  rw [show (1000000 * c + 10000 * y + n) / 1000000 = c by omega, show (1000000 * c + 10000 * y + n) / 10000 % 100 = y by omega, show (1000000 * c + 10000 * y + n) % 10000 = n by omega]
theorem fm_val {b0 b1 b2 b3 b4 b5 b6 b7 b8 : Int} (h : Form b0 b1 b2 b3 b4 b5 b6 b7 b8) (e : b8 = cl b0 b1 b2 b3 b4 b5 b6 b7) :
    valid (val b0 b1 b2 b3 b4 b5 b6 b7 / 1000000) (val b0 b1 b2 b3 b4 b5 b6 b7 / 10000 % 100) (val b0 b1 b2 b3 b4 b5 b6 b7 % 10000) ∧
    fm (val b0 b1 b2 b3 b4 b5 b6 b7 / 1000000) (val b0 b1 b2 b3 b4 b5 b6 b7 / 10000 % 100) (val b0 b1 b2 b3 b4 b5 b6 b7 % 10000) = strOfNums [b0, b1, b2, b3, b4, b5, b6, b7, b8] := by
  obtain ⟨d0, d1, d2, d3, d4, d5, d6, d7, d8⟩ := h
  unfold dig at *
  generalize hv : val b0 b1 b2 b3 b4 b5 b6 b7 = v
  unfold val at hv
  have e0 : 48 + v / 1000000 / 10 = b0 := by omega
  have e1 : 48 + v / 1000000 % 10 = b1 := by omega
  have e2 : 48 + v / 10000 % 100 / 10 = b2 := by omega
  have e3 : 48 + v / 10000 % 100 % 10 = b3 := by omega
  have e4 : 48 + v % 10000 / 1000 = b4 := by omega
  have e5 : 48 + v % 10000 / 100 % 10 = b5 := by omega
  have e6 : 48 + v % 10000 / 10 % 10 = b6 := by omega
  have e7 : 48 + v % 10000 % 10 = b7 := by omega
  refine ⟨by unfold valid; omega, ?_⟩
  unfold fm c8
  rw [e0, e1, e2, e3, e4, e5, e6, e7, ← e]
theorem parse_fm {c y n : Int} (h : valid c y n) {k : Nat} (hk : 60 ≤ k) : identity_Parse.f k (fm c y n) = some (c, y, n, 0) := by
  unfold fm
  rw [iparse_ok (fm_form h) hk]
  unfold pv
  rw [if_pos (by rfl), val_fm h]
theorem fm_size (c y n : Int) : (fm c y n).size = 9 := by unfold fm; rw [strOfNums_size]; rfl

/-! Letter -/
theorem iletter_ok {b0 b1 b2 b3 b4 b5 b6 b7 : Int} (d0 : dig b0) (d1 : dig b1) (d2 : dig b2) (d3 : dig b3) (d4 : dig b4) (d5 : dig b5) (d6 : dig b6) (d7 : dig b7) {k : Nat} (hk : 60 ≤ k) :
    identity_Letter.f k (strOfNums [b0, b1, b2, b3, b4, b5, b6, b7]) = some (strOfNums [cl b0 b1 b2 b3 b4 b5 b6 b7], 0) := by
  unfold identity_Letter.f
  rw [if_pos (by simp only [strOfNums_size, List.length_cons, List.length_nil]; omega), show (⟨#[65]⟩ : ByteArray) = strOfNums [65] from rfl, son_append]
  simp only [List.cons_append, List.nil_append]
  rw [read_ok ⟨d0, d1, d2, d3, d4, d5, d6, d7, by unfold let'; omega⟩ (by omega), Option.bind_some, if_pos rfl, check_ok 65 d0 d1 d2 d3 d4 d5 d6 d7 (by omega), Option.bind_some]
theorem letter_any (s : ByteArray) (hz : s.size ≤ 140737488351232) : ∃ r : ByteArray × Int, (∀ k, 60 ≤ k → identity_Letter.f k s = some r ∧ awardingbodyref04_Letter.f k s = some r) := by
  have hz' : s.size + 1 ≤ 9223372036854775807 := by omega
  by_cases hs : s.size = 8
  · obtain ⟨b0, b1, b2, b3, b4, b5, b6, b7, rfl, u⟩ := eight s hs
    have u' : ∀ x ∈ [b0, b1, b2, b3, b4, b5, b6, b7, 65], 0 ≤ x ∧ x < 256 := by
      simp only [List.mem_cons, List.not_mem_nil, or_false, forall_eq_or_imp, forall_eq] at u ⊢
      omega
    have e9 : strOfNums [b0, b1, b2, b3, b4, b5, b6, b7] ++ (⟨#[65]⟩ : ByteArray) = strOfNums [b0, b1, b2, b3, b4, b5, b6, b7, 65] := by
      rw [show (⟨#[65]⟩ : ByteArray) = strOfNums [65] from rfl, son_append]; rfl
    rcases form_or u' with h | ⟨j, h0, h1, hb⟩
    · exact ⟨_, fun k hk => ⟨iletter_ok h.d0 h.d1 h.d2 h.d3 h.d4 h.d5 h.d6 h.d7 hk, letter_ok h.d0 h.d1 h.d2 h.d3 h.d4 h.d5 h.d6 h.d7 (by omega)⟩⟩
    · have hj : j < 8 := by
        by_cases e : j = 8
        · subst e
          rw [bt_son _ _ (by omega) 65 rfl (by omega)] at hb
          exact absurd (by unfold fit let'; rw [if_neg (by omega)]; omega) hb
        · omega
      refine ⟨_, fun k hk => ⟨?_, letter_ill hs h0 hj ?_ (by omega)⟩⟩
      · obtain ⟨r, hr, e⟩ := read_ill (k := k) (by rw [strOfNums_size]; rfl) h0 h1 hb (by omega)
        unfold identity_Letter.f
        rw [if_pos hz', e9, e, Option.bind_some, if_neg (by rw [hr]; simp)]
      · intro hd
        apply hb
        unfold fit
        rw [if_pos hj]
        have u8 := u'
        simp only [List.mem_cons, List.not_mem_nil, or_false, forall_eq_or_imp, forall_eq] at u8
        obtain ⟨u0, u1, u2, u3, u4, u5, u6, u7, -⟩ := u8
        obtain rfl | rfl | rfl | rfl | rfl | rfl | rfl | rfl : j = 0 ∨ j = 1 ∨ j = 2 ∨ j = 3 ∨ j = 4 ∨ j = 5 ∨ j = 6 ∨ j = 7 := by omega
        · rw [bt_son _ _ (by omega) _ rfl u0] at hd ⊢; exact hd
        · rw [bt_son _ _ (by omega) _ rfl u1] at hd ⊢; exact hd
        · rw [bt_son _ _ (by omega) _ rfl u2] at hd ⊢; exact hd
        · rw [bt_son _ _ (by omega) _ rfl u3] at hd ⊢; exact hd
        · rw [bt_son _ _ (by omega) _ rfl u4] at hd ⊢; exact hd
        · rw [bt_son _ _ (by omega) _ rfl u5] at hd ⊢; exact hd
        · rw [bt_son _ _ (by omega) _ rfl u6] at hd ⊢; exact hd
        · rw [bt_son _ _ (by omega) _ rfl u7] at hd ⊢; exact hd
  · refine ⟨_, fun k hk => ⟨?_, letter_no hs k⟩⟩
    have hn : (s ++ (⟨#[65]⟩ : ByteArray)).size ≠ 9 := by rw [ByteArray.size_append]; show s.size + 1 ≠ 9; omega
    obtain ⟨r, hr, e⟩ := read_no hn k
    unfold identity_Letter.f
    rw [if_pos hz', e, Option.bind_some, if_neg (by rw [hr]; simp)]

end Go.Proofs.Ytogkjlfinjlngaa.NumU
