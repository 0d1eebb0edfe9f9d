/-
  Candidate numbers, third part: Letter.
  Conditions: those in each lemma's statement.
-/
import Derived.Test.YtogkjlfinjlngaaXAx8
import Derived.Test.YtogkjlfinjlngaaNumB
namespace Go.Proofs.Ytogkjlfinjlngaa.Num
set_option linter.unusedVariables false
set_option linter.unusedSimpArgs false
open Go.RowKit Go.Proofs.Ytogkjlfinjlngaa.Ix Go.Proofs.Ytogkjlfinjlngaa.XA Go.Proofs.YtogkjlfinjlngaaW.PrintWords Go.Proofs.YtogkjlfinjlngaaW.PrintLast Go.Proofs.YtogkjlfinjlngaaW.PrintMore

/-! Letter -/
theorem iletter_ok {b0 b1 b2 b3 b4 b5 b6 b7 : Int} (d0 : dig b0) (d1 : dig b1) (d2 : dig b2) (d3 : dig b3) (d4 : dig b4) (d5 : dig b5) (d6 : dig b6) (d7 : dig b7) {k : Nat} (hk : 60 ≤ k) :
    identity_Letter.f k (strOfNums [b0, b1, b2, b3, b4, b5, b6, b7]) = some (strOfNums [cl b0 b1 b2 b3 b4 b5 b6 b7], 0) := by
  unfold identity_Letter.f
  rw [if_pos (by simp only [strOfNums_size, List.length_cons, List.length_nil]; omega), show (⟨#[65]⟩ : ByteArray) = strOfNums [65] from rfl, son_append]
  simp only [List.cons_append, List.nil_append]
  rw [read_ok ⟨d0, d1, d2, d3, d4, d5, d6, d7, by unfold let'; omega⟩ (by omega), Option.bind_some, if_pos rfl, check_ok 65 d0 d1 d2 d3 d4 d5 d6 d7 (by omega), Option.bind_some]
theorem letter_any (s : ByteArray) (hz : s.size ≤ 140737488351232) : ∃ r : ByteArray × Int, (∀ k, 60 ≤ k → identity_Letter.f k s = some r ∧ awardingbodyref04_Letter.f k s = some r) := by
  have hz' : s.size + 1 ≤ 9223372036854775807 := by omega
  by_cases hs : s.size = 8
  · obtain ⟨b0, b1, b2, b3, b4, b5, b6, b7, rfl, u⟩ := eight s hs
    have u' : ∀ x ∈ [b0, b1, b2, b3, b4, b5, b6, b7, 65], 0 ≤ x ∧ x < 256 := by
      simp only [List.mem_cons, List.not_mem_nil, or_false, forall_eq_or_imp, forall_eq] at u ⊢
      omega
    have e9 : strOfNums [b0, b1, b2, b3, b4, b5, b6, b7] ++ (⟨#[65]⟩ : ByteArray) = strOfNums [b0, b1, b2, b3, b4, b5, b6, b7, 65] := by
      rw [show (⟨#[65]⟩ : ByteArray) = strOfNums [65] from rfl, son_append]; rfl
    rcases form_or u' with h | ⟨j, h0, h1, hb⟩
    · exact ⟨_, fun k hk => ⟨iletter_ok h.d0 h.d1 h.d2 h.d3 h.d4 h.d5 h.d6 h.d7 hk, letter_ok h.d0 h.d1 h.d2 h.d3 h.d4 h.d5 h.d6 h.d7 (by omega)⟩⟩
    · have hj : j < 8 := by
        by_cases e : j = 8
        · subst e
          rw [bt_son _ _ (by omega) 65 rfl (by omega)] at hb
          exact absurd (by unfold fit let'; rw [if_neg (by omega)]; omega) hb
        · omega
      refine ⟨_, fun k hk => ⟨?_, letter_ill hs h0 hj ?_ (by omega)⟩⟩
      · obtain ⟨r, hr, e⟩ := read_ill (k := k) (by rw [strOfNums_size]; rfl) h0 h1 hb (by omega)
        unfold identity_Letter.f
        rw [if_pos hz', e9, e, Option.bind_some, if_neg (by rw [hr]; simp)]
      · intro hd
        apply hb
        unfold fit
        rw [if_pos hj]
        have u8 := u'
        simp only [List.mem_cons, List.not_mem_nil, or_false, forall_eq_or_imp, forall_eq] at u8
        obtain ⟨u0, u1, u2, u3, u4, u5, u6, u7, -⟩ := u8
        obtain rfl | rfl | rfl | rfl | rfl | rfl | rfl | rfl : j = 0 ∨ j = 1 ∨ j = 2 ∨ j = 3 ∨ j = 4 ∨ j = 5 ∨ j = 6 ∨ j = 7 := by omega
        · rw [bt_son _ _ (by omega) _ rfl u0] at hd ⊢; exact hd
        · rw [bt_son _ _ (by omega) _ rfl u1] at hd ⊢; exact hd
        · rw [bt_son _ _ (by omega) _ rfl u2] at hd ⊢; exact hd
        · rw [bt_son _ _ (by omega) _ rfl u3] at hd ⊢; exact hd
        · rw [bt_son _ _ (by omega) _ rfl u4] at hd ⊢; exact hd
        · rw [bt_son _ _ (by omega) _ rfl u5] at hd ⊢; exact hd
        · rw [bt_son _ _ (by omega) _ rfl u6] at hd ⊢; exact hd
        · rw [bt_son _ _ (by omega) _ rfl u7] at hd ⊢; exact hd
  · refine ⟨_, fun k hk => ⟨?_, letter_no hs k⟩⟩
    have hn : (s ++ (⟨#[65]⟩ : ByteArray)).size ≠ 9 := by rw [ByteArray.size_append]; show s.size + 1 ≠ 9; omega
    obtain ⟨r, hr, e⟩ := read_no hn k
    unfold identity_Letter.f
    rw [if_pos hz', e, Option.bind_some, if_neg (by rw [hr]; simp)]

end Go.Proofs.Ytogkjlfinjlngaa.Num
