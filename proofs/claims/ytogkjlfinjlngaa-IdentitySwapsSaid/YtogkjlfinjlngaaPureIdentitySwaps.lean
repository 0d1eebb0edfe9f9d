/-
  The pure statement of IdentitySwaps: a number in which two different digits have been exchanged is refused. Conditions: those in the statement.
-/
import Derived.Test.YtogkjlfinjlngaaXSx4
import Derived.Test.YtogkjlfinjlngaaNumS
namespace Go.Proofs.Ytogkjlfinjlngaa.Pure
set_option linter.unusedVariables false
set_option linter.unusedSimpArgs false
open Go.RowKit Go.Proofs.Ytogkjlfinjlngaa.XS Go.Proofs.Ytogkjlfinjlngaa.NumS Go.Proofs.YtogkjlfinjlngaaW.PrintWords Go.Proofs.YtogkjlfinjlngaaW.PrintLast

theorem bytesOf_son (l : List Int) (u : ∀ x ∈ l, 0 ≤ x ∧ x < 256) : Go.Proofs.YtogkjlfinjlngaaW.PrintWords.bytesOf (strOfNums l) = l := by
  unfold Go.Proofs.YtogkjlfinjlngaaW.PrintWords.bytesOf
  rw [strOfNums_data, List.map_map]
  conv => rhs; rw [← List.map_id l]
  apply List.map_congr_left
  intro x hx
  have := u x hx
  simp [UInt8.toNat_ofNat]
  omega
theorem cl_ne {b0 b1 b2 b3 b4 b5 b6 b7 c0 c1 c2 c3 c4 c5 c6 c7 : Int} (h : (sm b0 b1 b2 b3 b4 b5 b6 b7 - sm c0 c1 c2 c3 c4 c5 c6 c7) % 23 ≠ 0) : cl b0 b1 b2 b3 b4 b5 b6 b7 ≠ cl c0 c1 c2 c3 c4 c5 c6 c7 := by
  unfold cl
  intro e
  have := ltr_inj (by omega) (by omega) (by omega) (by omega) e
  omega
theorem bad_sum {c0 c1 c2 c3 c4 c5 c6 c7 b8 b0 b1 b2 b3 b4 b5 b6 b7 : Int} (d0 : dig c0) (d1 : dig c1) (d2 : dig c2) (d3 : dig c3) (d4 : dig c4) (d5 : dig c5) (d6 : dig c6) (d7 : dig c7) (e : b8 = cl b0 b1 b2 b3 b4 b5 b6 b7)
    (h : (sm b0 b1 b2 b3 b4 b5 b6 b7 - sm c0 c1 c2 c3 c4 c5 c6 c7) % 23 ≠ 0) {k : Nat} (hk : 60 ≤ k) : identity_Parse.f k (strOfNums [c0, c1, c2, c3, c4, c5, c6, c7, b8]) = some (0, 0, 0, 24) := by
  rw [iparse_ok ⟨d0, d1, d2, d3, d4, d5, d6, d7, by rw [e]; exact cl_let ..⟩ hk]
  unfold pv
  rw [if_neg (by rw [e]; exact cl_ne h)]
set_option maxHeartbeats 8000000 in
theorem swap_all {b0 b1 b2 b3 b4 b5 b6 b7 b8 : Int} (f : NumS.Form b0 b1 b2 b3 b4 b5 b6 b7 b8) (e : b8 = cl b0 b1 b2 b3 b4 b5 b6 b7) {i k : Int} (hi : 0 ≤ i ∧ i < 8) (hk : 0 ≤ k ∧ k < 8)
    (hne : rd [b0, b1, b2, b3, b4, b5, b6, b7, b8] i ≠ rd [b0, b1, b2, b3, b4, b5, b6, b7, b8] k) {K : Nat} (hK : 60 ≤ K) :
    identity_Parse.f K (strOfNums (([b0, b1, b2, b3, b4, b5, b6, b7, b8].set i.toNat (rd [b0, b1, b2, b3, b4, b5, b6, b7, b8] k)).set k.toNat (rd [b0, b1, b2, b3, b4, b5, b6, b7, b8] i))) = some (0, 0, 0, 24) := by
  obtain ⟨d0, d1, d2, d3, d4, d5, d6, d7, d8⟩ := f
  have d0' := d0; have d1' := d1; have d2' := d2; have d3' := d3; have d4' := d4; have d5' := d5; have d6' := d6; have d7' := d7
  unfold dig at d0' d1' d2' d3' d4' d5' d6' d7'
  obtain rfl | rfl | rfl | rfl | rfl | rfl | rfl | rfl : i = 0 ∨ i = 1 ∨ i = 2 ∨ i = 3 ∨ i = 4 ∨ i = 5 ∨ i = 6 ∨ i = 7 := by omega
  all_goals
    obtain rfl | rfl | rfl | rfl | rfl | rfl | rfl | rfl : k = 0 ∨ k = 1 ∨ k = 2 ∨ k = 3 ∨ k = 4 ∨ k = 5 ∨ k = 6 ∨ k = 7 := by omega
  all_goals first
    | exact absurd rfl hne
    | (simp [rd] at hne ⊢
       refine bad_sum ?_ ?_ ?_ ?_ ?_ ?_ ?_ ?_ e ?_ hK <;> first | assumption | (unfold sm; omega))
theorem IdentitySwaps : awardingbodylaw04_IdentitySwaps.Pure := by
  intro a0 a1 a2 h0 h1 h2
  have w0 := wf64 h0
  have q0 : -9223372036854775808 ≤ wrap64 (Int.tdiv a0 128) ∧ wrap64 (Int.tdiv a0 128) ≤ 9223372036854775807 := by unfold wrap64; omega
  have q1 : -9223372036854775808 ≤ wrap64 (Int.tdiv a0 16384) ∧ wrap64 (Int.tdiv a0 16384) ≤ 9223372036854775807 := by unfold wrap64; omega
  refine ⟨100 + 1, ?_⟩
  unfold awardingbodylaw04_IdentitySwaps.f
  rw [cut_ok (n := 100) (by omega) (by omega) w0, Option.bind_some, cut_ok (n := 100) (by omega) (by omega) q0, Option.bind_some, cut_ok (n := 10000) (by omega) (by omega) q1, Option.bind_some]
  have hv : valid (a0 % 100) (wrap64 (Int.tdiv a0 128) % 100) (wrap64 (Int.tdiv a0 16384) % 10000) := by unfold valid; omega
  generalize a0 % 100 = c, wrap64 (Int.tdiv a0 128) % 100 = y, wrap64 (Int.tdiv a0 16384) % 10000 = n at hv
  rw [iformat_ok hv (by omega), Option.bind_some, if_pos (by rfl)]
  have hsz : ((fm c y n).size : Int) = 9 := by rw [fm_size]; rfl
  have hb : (((fm c y n, (0 : Int)).1.size : Int) != 9) = false := by rw [hsz]; rfl
  rw [hb]
  show awardingbodylaw04_IdentitySwaps.j0 (100 + 1) a1 a2 (fm c y n) false = some true
  rw [awardingbodylaw04_IdentitySwaps.j0, if_neg (by simp), cut_ok (n := 8) (by omega) (by omega) (wf64 h1), Option.bind_some, cut_ok (n := 8) (by omega) (by omega) (wf64 h2), Option.bind_some]
  have hi : 0 ≤ a1 % 8 ∧ a1 % 8 < 8 := by omega
  have hk : 0 ≤ a2 % 8 ∧ a2 % 8 < 8 := by omega
  generalize a1 % 8 = i, a2 % 8 = k at hi hk
  rw [if_pos hi.1, if_pos (by omega), if_pos hk.1, if_pos (by omega), awake_ok (by omega), Option.bind_some]
  by_cases he : bt (fm c y n) i = bt (fm c y n) k
  · rw [if_pos he]
  · rw [if_neg he, if_pos (by omega), Option.bind_some]
    have ff := fm_form hv
    rw [← rd_bytesOf, ← rd_bytesOf] at he
    unfold fm at he ⊢
    rw [bytesOf_son _ ff.u8] at he ⊢
    rw [if_pos (by simp; omega), if_pos (by simp; omega)]
    rw [swap_all (K := 100) ff rfl hi hk he (by omega), Option.bind_some]
    rfl
end Go.Proofs.Ytogkjlfinjlngaa.Pure
