/-
  The pure statement of IdentityTwins: a number in which two equal neighbouring digits have been replaced by two other equal ones is refused. Conditions: those in the statement.
-/
import Derived.Test.YtogkjlfinjlngaaXUx5
import Derived.Test.YtogkjlfinjlngaaNumU
namespace Go.Proofs.Ytogkjlfinjlngaa.Pure
set_option linter.unusedVariables false
set_option linter.unusedSimpArgs false
open Go.RowKit Go.Proofs.Ytogkjlfinjlngaa.XU Go.Proofs.Ytogkjlfinjlngaa.NumU Go.Proofs.YtogkjlfinjlngaaW.PrintWords Go.Proofs.YtogkjlfinjlngaaW.PrintLast

theorem bytesOf_son (l : List Int) (u : ∀ x ∈ l, 0 ≤ x ∧ x < 256) : Go.Proofs.YtogkjlfinjlngaaW.PrintWords.bytesOf (strOfNums l) = l := by
  unfold Go.Proofs.YtogkjlfinjlngaaW.PrintWords.bytesOf
  rw [strOfNums_data, List.map_map]
  conv => rhs; rw [← List.map_id l]
  apply List.map_congr_left
  intro x hx
  have := u x hx
  simp [UInt8.toNat_ofNat]
  omega
theorem cl_ne {b0 b1 b2 b3 b4 b5 b6 b7 c0 c1 c2 c3 c4 c5 c6 c7 : Int} (h : (sm b0 b1 b2 b3 b4 b5 b6 b7 - sm c0 c1 c2 c3 c4 c5 c6 c7) % 23 ≠ 0) : cl b0 b1 b2 b3 b4 b5 b6 b7 ≠ cl c0 c1 c2 c3 c4 c5 c6 c7 := by
  unfold cl
  intro e
  have := ltr_inj (by omega) (by omega) (by omega) (by omega) e
  omega
theorem bad_sum {c0 c1 c2 c3 c4 c5 c6 c7 b8 b0 b1 b2 b3 b4 b5 b6 b7 : Int} (d0 : dig c0) (d1 : dig c1) (d2 : dig c2) (d3 : dig c3) (d4 : dig c4) (d5 : dig c5) (d6 : dig c6) (d7 : dig c7) (e : b8 = cl b0 b1 b2 b3 b4 b5 b6 b7)
    (h : (sm b0 b1 b2 b3 b4 b5 b6 b7 - sm c0 c1 c2 c3 c4 c5 c6 c7) % 23 ≠ 0) {k : Nat} (hk : 60 ≤ k) : identity_Parse.f k (strOfNums [c0, c1, c2, c3, c4, c5, c6, c7, b8]) = some (0, 0, 0, 24) := by
  rw [iparse_ok ⟨d0, d1, d2, d3, d4, d5, d6, d7, by rw [e]; exact cl_let ..⟩ hk]
  unfold pv
  rw [if_neg (by rw [e]; exact cl_ne h)]
/-- the numbers of the law, for one place -/
def Tw (b0 b1 b2 b3 b4 b5 b6 b7 b8 t d : Int) : Prop := ∃ c : Int, let' c ∧ (∀ K, 60 ≤ K → identity_Letter.f K (strOfNums (([b0, b1, b2, b3, b4, b5, b6, b7, b8].set (t + 1).toNat (rd [b0, b1, b2, b3, b4, b5, b6, b7, b8] t)).take 8)) = some (strOfNums [c], 0)) ∧
  dig (rd ([b0, b1, b2, b3, b4, b5, b6, b7, b8].set (t + 1).toNat (rd [b0, b1, b2, b3, b4, b5, b6, b7, b8] t)) t) ∧ (rd ([b0, b1, b2, b3, b4, b5, b6, b7, b8].set (t + 1).toNat (rd [b0, b1, b2, b3, b4, b5, b6, b7, b8] t)) t - 48 ≠ d → ∀ K, 60 ≤ K →
    identity_Parse.f K (strOfNums (((([b0, b1, b2, b3, b4, b5, b6, b7, b8].set (t + 1).toNat (rd [b0, b1, b2, b3, b4, b5, b6, b7, b8] t)).set t.toNat (48 + d)).set (t + 1).toNat (48 + d)).take 8 ++ [c])) = some (0, 0, 0, 24))
theorem tw0 {b0 b1 b2 b3 b4 b5 b6 b7 b8 : Int} (f : NumU.Form b0 b1 b2 b3 b4 b5 b6 b7 b8) {d : Int} (hd : 0 ≤ d ∧ d < 10) : Tw b0 b1 b2 b3 b4 b5 b6 b7 b8 0 d := by
  refine ⟨cl b0 b0 b2 b3 b4 b5 b6 b7, cl_let .., fun K hK => iletter_ok f.d0 f.d0 f.d2 f.d3 f.d4 f.d5 f.d6 f.d7 hK, f.d0, fun hne K hK => ?_⟩
  have hne' : b0 - 48 ≠ d := hne
  have h := f.d0
  unfold dig at h
  exact bad_sum (c0 := (48 + d)) (c1 := (48 + d)) (c2 := b2) (c3 := b3) (c4 := b4) (c5 := b5) (c6 := b6) (c7 := b7) ⟨by omega, by omega⟩ ⟨by omega, by omega⟩ f.d2 f.d3 f.d4 f.d5 f.d6 f.d7 (b0 := b0) (b1 := b0) (b2 := b2) (b3 := b3) (b4 := b4) (b5 := b5) (b6 := b6) (b7 := b7) rfl (by unfold sm; omega) hK
theorem tw1 {b0 b1 b2 b3 b4 b5 b6 b7 b8 : Int} (f : NumU.Form b0 b1 b2 b3 b4 b5 b6 b7 b8) {d : Int} (hd : 0 ≤ d ∧ d < 10) : Tw b0 b1 b2 b3 b4 b5 b6 b7 b8 1 d := by
  refine ⟨cl b0 b1 b1 b3 b4 b5 b6 b7, cl_let .., fun K hK => iletter_ok f.d0 f.d1 f.d1 f.d3 f.d4 f.d5 f.d6 f.d7 hK, f.d1, fun hne K hK => ?_⟩
  have hne' : b1 - 48 ≠ d := hne
  have h := f.d1
  unfold dig at h
  exact bad_sum (c0 := b0) (c1 := (48 + d)) (c2 := (48 + d)) (c3 := b3) (c4 := b4) (c5 := b5) (c6 := b6) (c7 := b7) f.d0 ⟨by omega, by omega⟩ ⟨by omega, by omega⟩ f.d3 f.d4 f.d5 f.d6 f.d7 (b0 := b0) (b1 := b1) (b2 := b1) (b3 := b3) (b4 := b4) (b5 := b5) (b6 := b6) (b7 := b7) rfl (by unfold sm; omega) hK
theorem tw2 {b0 b1 b2 b3 b4 b5 b6 b7 b8 : Int} (f : NumU.Form b0 b1 b2 b3 b4 b5 b6 b7 b8) {d : Int} (hd : 0 ≤ d ∧ d < 10) : Tw b0 b1 b2 b3 b4 b5 b6 b7 b8 2 d := by
  refine ⟨cl b0 b1 b2 b2 b4 b5 b6 b7, cl_let .., fun K hK => iletter_ok f.d0 f.d1 f.d2 f.d2 f.d4 f.d5 f.d6 f.d7 hK, f.d2, fun hne K hK => ?_⟩
  have hne' : b2 - 48 ≠ d := hne
  have h := f.d2
  unfold dig at h
  exact bad_sum (c0 := b0) (c1 := b1) (c2 := (48 + d)) (c3 := (48 + d)) (c4 := b4) (c5 := b5) (c6 := b6) (c7 := b7) f.d0 f.d1 ⟨by omega, by omega⟩ ⟨by omega, by omega⟩ f.d4 f.d5 f.d6 f.d7 (b0 := b0) (b1 := b1) (b2 := b2) (b3 := b2) (b4 := b4) (b5 := b5) (b6 := b6) (b7 := b7) rfl (by unfold sm; omega) hK
theorem tw3 {b0 b1 b2 b3 b4 b5 b6 b7 b8 : Int} (f : NumU.Form b0 b1 b2 b3 b4 b5 b6 b7 b8) {d : Int} (hd : 0 ≤ d ∧ d < 10) : Tw b0 b1 b2 b3 b4 b5 b6 b7 b8 3 d := by
  refine ⟨cl b0 b1 b2 b3 b3 b5 b6 b7, cl_let .., fun K hK => iletter_ok f.d0 f.d1 f.d2 f.d3 f.d3 f.d5 f.d6 f.d7 hK, f.d3, fun hne K hK => ?_⟩
  have hne' : b3 - 48 ≠ d := hne
  have h := f.d3
  unfold dig at h
  exact bad_sum (c0 := b0) (c1 := b1) (c2 := b2) (c3 := (48 + d)) (c4 := (48 + d)) (c5 := b5) (c6 := b6) (c7 := b7) f.d0 f.d1 f.d2 ⟨by omega, by omega⟩ ⟨by omega, by omega⟩ f.d5 f.d6 f.d7 (b0 := b0) (b1 := b1) (b2 := b2) (b3 := b3) (b4 := b3) (b5 := b5) (b6 := b6) (b7 := b7) rfl (by unfold sm; omega) hK
theorem tw4 {b0 b1 b2 b3 b4 b5 b6 b7 b8 : Int} (f : NumU.Form b0 b1 b2 b3 b4 b5 b6 b7 b8) {d : Int} (hd : 0 ≤ d ∧ d < 10) : Tw b0 b1 b2 b3 b4 b5 b6 b7 b8 4 d := by
  refine ⟨cl b0 b1 b2 b3 b4 b4 b6 b7, cl_let .., fun K hK => iletter_ok f.d0 f.d1 f.d2 f.d3 f.d4 f.d4 f.d6 f.d7 hK, f.d4, fun hne K hK => ?_⟩
  have hne' : b4 - 48 ≠ d := hne
  have h := f.d4
  unfold dig at h
  exact bad_sum (c0 := b0) (c1 := b1) (c2 := b2) (c3 := b3) (c4 := (48 + d)) (c5 := (48 + d)) (c6 := b6) (c7 := b7) f.d0 f.d1 f.d2 f.d3 ⟨by omega, by omega⟩ ⟨by omega, by omega⟩ f.d6 f.d7 (b0 := b0) (b1 := b1) (b2 := b2) (b3 := b3) (b4 := b4) (b5 := b4) (b6 := b6) (b7 := b7) rfl (by unfold sm; omega) hK
theorem tw5 {b0 b1 b2 b3 b4 b5 b6 b7 b8 : Int} (f : NumU.Form b0 b1 b2 b3 b4 b5 b6 b7 b8) {d : Int} (hd : 0 ≤ d ∧ d < 10) : Tw b0 b1 b2 b3 b4 b5 b6 b7 b8 5 d := by
  refine ⟨cl b0 b1 b2 b3 b4 b5 b5 b7, cl_let .., fun K hK => iletter_ok f.d0 f.d1 f.d2 f.d3 f.d4 f.d5 f.d5 f.d7 hK, f.d5, fun hne K hK => ?_⟩
  have hne' : b5 - 48 ≠ d := hne
  have h := f.d5
  unfold dig at h
  exact bad_sum (c0 := b0) (c1 := b1) (c2 := b2) (c3 := b3) (c4 := b4) (c5 := (48 + d)) (c6 := (48 + d)) (c7 := b7) f.d0 f.d1 f.d2 f.d3 f.d4 ⟨by omega, by omega⟩ ⟨by omega, by omega⟩ f.d7 (b0 := b0) (b1 := b1) (b2 := b2) (b3 := b3) (b4 := b4) (b5 := b5) (b6 := b5) (b7 := b7) rfl (by unfold sm; omega) hK
theorem tw6 {b0 b1 b2 b3 b4 b5 b6 b7 b8 : Int} (f : NumU.Form b0 b1 b2 b3 b4 b5 b6 b7 b8) {d : Int} (hd : 0 ≤ d ∧ d < 10) : Tw b0 b1 b2 b3 b4 b5 b6 b7 b8 6 d := by
  refine ⟨cl b0 b1 b2 b3 b4 b5 b6 b6, cl_let .., fun K hK => iletter_ok f.d0 f.d1 f.d2 f.d3 f.d4 f.d5 f.d6 f.d6 hK, f.d6, fun hne K hK => ?_⟩
  have hne' : b6 - 48 ≠ d := hne
  have h := f.d6
  unfold dig at h
  exact bad_sum (c0 := b0) (c1 := b1) (c2 := b2) (c3 := b3) (c4 := b4) (c5 := b5) (c6 := (48 + d)) (c7 := (48 + d)) f.d0 f.d1 f.d2 f.d3 f.d4 f.d5 ⟨by omega, by omega⟩ ⟨by omega, by omega⟩ (b0 := b0) (b1 := b1) (b2 := b2) (b3 := b3) (b4 := b4) (b5 := b5) (b6 := b6) (b7 := b6) rfl (by unfold sm; omega) hK
theorem tw_all {b0 b1 b2 b3 b4 b5 b6 b7 b8 : Int} (f : NumU.Form b0 b1 b2 b3 b4 b5 b6 b7 b8) {t d : Int} (ht : 0 ≤ t ∧ t < 7) (hd : 0 ≤ d ∧ d < 10) : Tw b0 b1 b2 b3 b4 b5 b6 b7 b8 t d := by
  obtain rfl | rfl | rfl | rfl | rfl | rfl | rfl : t = 0 ∨ t = 1 ∨ t = 2 ∨ t = 3 ∨ t = 4 ∨ t = 5 ∨ t = 6 := by omega
  · exact tw0 f hd
  · exact tw1 f hd
  · exact tw2 f hd
  · exact tw3 f hd
  · exact tw4 f hd
  · exact tw5 f hd
  · exact tw6 f hd
theorem IdentityTwins : awardingbodylaw04_IdentityTwins.Pure := by
  intro a0 a1 a2 h0 h1 h2
  refine ⟨100 + 1, ?_⟩
  unfold awardingbodylaw04_IdentityTwins.f
  rw [cut_ok (n := 7) (by omega) (by omega) (wf64 h1), Option.bind_some, cut_ok (n := 10) (by omega) (by omega) (wf64 h2), Option.bind_some, number_ok (wf64 h0) (by omega), Option.bind_some]
  have hv := n_valid a0
  have hsz := fm_size (nc a0) (ny a0) (nn a0)
  rw [if_pos (by omega), Option.bind_some]
  have ht : 0 ≤ a1 % 7 ∧ a1 % 7 < 7 := by omega
  have hd : 0 ≤ a2 % 10 ∧ a2 % 10 < 10 := by omega
  generalize a1 % 7 = t, a2 % 10 = d at ht hd
  generalize nc a0 = c, ny a0 = y, nn a0 = n at hv hsz
  have ff := fm_form hv
  unfold fm
  rw [bytesOf_son _ ff.u8]
  obtain ⟨q, hq, hl, hdg, hp⟩ := tw_all ff ht hd
  rw [w64 (x := t + 1) (by omega) (by omega)]
  generalize hL : [48 + c / 10, 48 + c % 10, 48 + y / 10, 48 + y % 10, 48 + n / 1000, 48 + n / 100 % 10, 48 + n / 10 % 10, 48 + n % 10, c8 c y n] = L at hl hdg hp
  have hlen : L.length = 9 := by rw [← hL]; rfl
  rw [if_pos ht.1, if_pos (by omega), if_pos (by omega), if_pos (by omega), Option.bind_some, if_pos (by omega), hl _ (by omega), Option.bind_some, if_pos (by rfl)]
  have hs1 : (strOfNums [q]).size = 1 := by rw [strOfNums_size]; rfl
  have hb : (((strOfNums [q]).size : Int) != 1) = false := by rw [hs1]; rfl
  show awardingbodylaw04_IdentityTwins.j0 (100 + 1) t d (L.set (t + 1).toNat (rd L t)) (strOfNums [q]) (((strOfNums [q]).size : Int) != 1) = some true
  rw [hb]
  generalize hM : L.set (t + 1).toNat (rd L t) = M at hl hdg hp
  have hlen' : M.length = 9 := by rw [← hM, List.length_set, hlen]
  unfold dig at hdg
  rw [awardingbodylaw04_IdentityTwins.j0, if_neg (by simp), if_pos ht.1, if_pos (by omega), awake_ok (by omega), Option.bind_some]
  by_cases he : (rd M t - 48) % 256 = d
  · rw [if_pos he]
  · rw [if_neg he, w64 (x := t + 1) (by omega) (by omega), if_pos (by omega), if_pos (by omega), if_pos (by omega), Option.bind_some, w64 (x := 48 + d) (by omega) (by omega), show (48 + d) % 256 = 48 + d by omega]
    rw [if_pos (by rw [hs1, strOfNums_size]; simp only [List.length_take, List.length_set]; omega), son_append, hp (by omega) _ (by omega), Option.bind_some]
    rfl
end Go.Proofs.Ytogkjlfinjlngaa.Pure
