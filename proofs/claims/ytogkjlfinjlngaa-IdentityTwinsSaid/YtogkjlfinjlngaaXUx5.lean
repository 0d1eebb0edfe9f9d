/- Go functions of the program as plain Lean functions with a number of rounds, and that the calls come to exactly their answers. Conditions: those in each theorem. Written by a program of this project (wip/tools/xprint.py). -/
import Derived.Test.YtogkjlfinjlngaaXUx0
import Derived.Test.YtogkjlfinjlngaaXUx2
import Derived.Test.YtogkjlfinjlngaaXUx3
import Derived.Test.YtogkjlfinjlngaaXUx4
namespace Go.Proofs.Ytogkjlfinjlngaa.XU
open Go.RowKit Go.Proofs.Ytogkjlfinjlngaa.Ix Go.Proofs.YtogkjlfinjlngaaW.PrintWords Go.Proofs.YtogkjlfinjlngaaW.PrintLast Go.Proofs.YtogkjlfinjlngaaW.PrintMore
attribute [local go_sem] max2_int min2_int max_two min_two max_three min_three max_four min_four   -- for this text's walks alone
set_option linter.unusedVariables false
set_option linter.unusedSimpArgs false

/-! ### awardingbodylaw04_IdentityTwins: function 8 -/
def awardingbodylaw04_IdentityTwins.j0 : Nat → Int → Int → List Int → ByteArray → Bool → Option (Bool)
  | 0, _, _, _, _, _ => none
  | k + 1, x1, x7, x8, x9, x41 => if x41 = true then (some false) else (if 0 ≤ x1 then (if x1 < (x8.length : Int) then (if (((rd x8 x1) - 48) % 256) = x7 then ((awardingbodylaw04_awake.f k).bind fun t182 => (some t182)) else (if 0 ≤ (wrap64 (x1 + 1)) then (if (wrap64 (x1 + 1)) < (x8.length : Int) then (if 8 ≤ (x8.length : Int) then ((some (((x8.set (x1 : Int).toNat ((wrap64 (48 + x7)) % 256)).set ((wrap64 (x1 + 1)) : Int).toNat ((wrap64 (48 + x7)) % 256)).take 8 : List Int)).bind fun y185 => (if (strOfNums y185).size + x9.size ≤ 9223372036854775807 then ((identity_Parse.f k ((strOfNums y185) ++ x9)).bind fun bt189 => (if bt189.2.2.2 = 24 then ((awardingbodylaw04_awake.f k).bind fun t194 => (some t194)) else (some false))) else (none))) else (none)) else (none)) else (none))) else (none)) else (none))
def awardingbodylaw04_IdentityTwins.f (k : Nat) (a0 : Int) (a1 : Int) (a2 : Int) : Option (Bool) := (awardingbodymake_Cut.f a1 7).bind fun t167 => ((awardingbodymake_Cut.f a2 10).bind fun t168 => ((awardingbodylaw04_number.f k a0).bind fun t169 => (if t169.size ≤ 9223372036854775807 then ((some (bytesOf t169 : List Int)).bind fun y170 => (if 0 ≤ t167 then (if t167 < (y170.length : Int) then (if 0 ≤ (wrap64 (t167 + 1)) then (if (wrap64 (t167 + 1)) < (y170.length : Int) then ((some (y170.set ((wrap64 (t167 + 1)) : Int).toNat (rd y170 t167) : List Int)).bind fun y174 => (if 8 ≤ (y170.length : Int) then ((identity_Letter.f k (strOfNums (y174.take 8))).bind fun bt179 => (if bt179.2 = 0 then (awardingbodylaw04_IdentityTwins.j0 k t167 t168 y174 bt179.1 ((bt179.1.size : Int) != 1)) else (awardingbodylaw04_IdentityTwins.j0 k t167 t168 y174 bt179.1 true))) else (none))) else (none)) else (none)) else (none)) else (none))) else (none))))
theorem awardingbodylaw04_IdentityTwins.mono_l : ∀ k, (∀ y0 y1 y2 y3 y4, LeO (awardingbodylaw04_IdentityTwins.j0 k y0 y1 y2 y3 y4) (awardingbodylaw04_IdentityTwins.j0 (k + 1) y0 y1 y2 y3 y4))
  | 0 => fun _ _ _ _ _ r h => by simp [awardingbodylaw04_IdentityTwins.j0] at h
  | k + 1 => by
    have ih0 := awardingbodylaw04_IdentityTwins.mono_l k
    · intro y0 y1 y2 y3 y4
      unfold awardingbodylaw04_IdentityTwins.j0
      repeat' first
      | (with_reducible exact ih0 _ _ _ _ _)
      | (with_reducible exact awardingbodylaw04_awake.mono _)
      | (with_reducible exact awardingbodylaw04_number.mono _ _)
      | (with_reducible exact identity_Letter.mono _ _)
      | (with_reducible exact identity_Parse.mono _ _)
      | (with_reducible exact LeO.refl _)
      | (with_reducible exact LeO.none _)
      | (with_reducible refine LeO.ite ?_ ?_)
      | (with_reducible refine LeO.bind ?_ (fun _ => ?_))
      | exact ih0 _ _ _ _ _
      | exact awardingbodylaw04_awake.mono _
      | exact awardingbodylaw04_number.mono _ _
      | exact identity_Letter.mono _ _
      | exact identity_Parse.mono _ _
      | exact LeO.none _
      | refine LeO.ite ?_ ?_
      | refine LeO.bind ?_ (fun _ => ?_)
theorem awardingbodylaw04_IdentityTwins.mono : ∀ a0 a1 a2 k, LeO (awardingbodylaw04_IdentityTwins.f k a0 a1 a2) (awardingbodylaw04_IdentityTwins.f (k + 1) a0 a1 a2) := by
  intro a0 a1 a2 k
  have ih0 := awardingbodylaw04_IdentityTwins.mono_l k
  unfold awardingbodylaw04_IdentityTwins.f
  repeat' first
      | (with_reducible exact ih0 _ _ _ _ _)
      | (with_reducible exact awardingbodylaw04_awake.mono _)
      | (with_reducible exact awardingbodylaw04_number.mono _ _)
      | (with_reducible exact identity_Letter.mono _ _)
      | (with_reducible exact identity_Parse.mono _ _)
      | (with_reducible exact LeO.refl _)
      | (with_reducible exact LeO.none _)
      | (with_reducible refine LeO.ite ?_ ?_)
      | (with_reducible refine LeO.bind ?_ (fun _ => ?_))
      | exact ih0 _ _ _ _ _
      | exact awardingbodylaw04_awake.mono _
      | exact awardingbodylaw04_number.mono _ _
      | exact identity_Letter.mono _ _
      | exact identity_Parse.mono _ _
      | exact LeO.none _
      | refine LeO.ite ?_ ?_
      | refine LeO.bind ?_ (fun _ => ?_)
set_option maxHeartbeats 8000000 in
set_option maxRecDepth 100000 in
theorem awardingbodylaw04_IdentityTwins.calls (k : Nat) (a0 : Int) (a1 : Int) (a2 : Int) (r : Bool) (w : World) (h : awardingbodylaw04_IdentityTwins.f k a0 a1 a2 = some r) :
    Calls Try.prog 8 #[.int .i64 a0, .int .i64 a1, .int .i64 a2] w fun e w' => e = .returned (.bool r) ∧ Below w.heap.size w w' := by
  have hu23 := Try.underlying23
  have HB := Aside0.mk (Below.refl w.heap.size w)
  have H : ((awardingbodymake_Cut.f a1 7).bind fun t167 => ((awardingbodymake_Cut.f a2 10).bind fun t168 => ((awardingbodylaw04_number.f k a0).bind fun t169 => (if t169.size ≤ 9223372036854775807 then ((some (bytesOf t169 : List Int)).bind fun y170 => (if 0 ≤ t167 then (if t167 < (y170.length : Int) then (if 0 ≤ (wrap64 (t167 + 1)) then (if (wrap64 (t167 + 1)) < (y170.length : Int) then ((some (y170.set ((wrap64 (t167 + 1)) : Int).toNat (rd y170 t167) : List Int)).bind fun y174 => (if 8 ≤ (y170.length : Int) then ((identity_Letter.f k (strOfNums (y174.take 8))).bind fun bt179 => (if bt179.2 = 0 then (awardingbodylaw04_IdentityTwins.j0 k t167 t168 y174 bt179.1 ((bt179.1.size : Int) != 1)) else (awardingbodylaw04_IdentityTwins.j0 k t167 t168 y174 bt179.1 true))) else (none))) else (none)) else (none)) else (none)) else (none))) else (none))))) = some r := h
  clear h
  replace H := Option.bind_eq_some_iff.mp H
  obtain ⟨t167, A40, H⟩ := H
  replace H : ((awardingbodymake_Cut.f a2 10).bind fun t168 => ((awardingbodylaw04_number.f k a0).bind fun t169 => (if t169.size ≤ 9223372036854775807 then ((some (bytesOf t169 : List Int)).bind fun y170 => (if 0 ≤ t167 then (if t167 < (y170.length : Int) then (if 0 ≤ (wrap64 (t167 + 1)) then (if (wrap64 (t167 + 1)) < (y170.length : Int) then ((some (y170.set ((wrap64 (t167 + 1)) : Int).toNat (rd y170 t167) : List Int)).bind fun y174 => (if 8 ≤ (y170.length : Int) then ((identity_Letter.f k (strOfNums (y174.take 8))).bind fun bt179 => (if bt179.2 = 0 then (awardingbodylaw04_IdentityTwins.j0 k t167 t168 y174 bt179.1 ((bt179.1.size : Int) != 1)) else (awardingbodylaw04_IdentityTwins.j0 k t167 t168 y174 bt179.1 true))) else (none))) else (none)) else (none)) else (none)) else (none))) else (none)))) = some r := H
  have A4 := Aside0.mk A40
  clear A40
  replace H := Option.bind_eq_some_iff.mp H
  obtain ⟨t168, A50, H⟩ := H
  replace H : ((awardingbodylaw04_number.f k a0).bind fun t169 => (if t169.size ≤ 9223372036854775807 then ((some (bytesOf t169 : List Int)).bind fun y170 => (if 0 ≤ t167 then (if t167 < (y170.length : Int) then (if 0 ≤ (wrap64 (t167 + 1)) then (if (wrap64 (t167 + 1)) < (y170.length : Int) then ((some (y170.set ((wrap64 (t167 + 1)) : Int).toNat (rd y170 t167) : List Int)).bind fun y174 => (if 8 ≤ (y170.length : Int) then ((identity_Letter.f k (strOfNums (y174.take 8))).bind fun bt179 => (if bt179.2 = 0 then (awardingbodylaw04_IdentityTwins.j0 k t167 t168 y174 bt179.1 ((bt179.1.size : Int) != 1)) else (awardingbodylaw04_IdentityTwins.j0 k t167 t168 y174 bt179.1 true))) else (none))) else (none)) else (none)) else (none)) else (none))) else (none))) = some r := H
  have A5 := Aside0.mk A50
  clear A50
  replace H := Option.bind_eq_some_iff.mp H
  obtain ⟨t169, A60, H⟩ := H
  replace H : (if t169.size ≤ 9223372036854775807 then ((some (bytesOf t169 : List Int)).bind fun y170 => (if 0 ≤ t167 then (if t167 < (y170.length : Int) then (if 0 ≤ (wrap64 (t167 + 1)) then (if (wrap64 (t167 + 1)) < (y170.length : Int) then ((some (y170.set ((wrap64 (t167 + 1)) : Int).toNat (rd y170 t167) : List Int)).bind fun y174 => (if 8 ≤ (y170.length : Int) then ((identity_Letter.f k (strOfNums (y174.take 8))).bind fun bt179 => (if bt179.2 = 0 then (awardingbodylaw04_IdentityTwins.j0 k t167 t168 y174 bt179.1 ((bt179.1.size : Int) != 1)) else (awardingbodylaw04_IdentityTwins.j0 k t167 t168 y174 bt179.1 true))) else (none))) else (none)) else (none)) else (none)) else (none))) else (none)) = some r := H
  have A6 := Aside0.mk A60
  clear A60
  by_cases c7 : t169.size ≤ 9223372036854775807
  · rw [if_pos c7] at H
    have c7b0 := eq_true c7
    have c7b1 : decide (t169.size ≤ 9223372036854775807) = true := decide_eq_true c7
    try have c7b2 : (9223372036854775807 < t169.size) = False := eq_false (Nat.not_lt.2 c7)
    clear c7
    obtain ⟨y170, hy170⟩ : ∃ y_ : List Int, y_ = (bytesOf t169) := ⟨_, rfl⟩
    replace H : (if 0 ≤ t167 then (if t167 < (y170.length : Int) then (if 0 ≤ (wrap64 (t167 + 1)) then (if (wrap64 (t167 + 1)) < (y170.length : Int) then ((some (y170.set ((wrap64 (t167 + 1)) : Int).toNat (rd y170 t167) : List Int)).bind fun y174 => (if 8 ≤ (y170.length : Int) then ((identity_Letter.f k (strOfNums (y174.take 8))).bind fun bt179 => (if bt179.2 = 0 then (awardingbodylaw04_IdentityTwins.j0 k t167 t168 y174 bt179.1 ((bt179.1.size : Int) != 1)) else (awardingbodylaw04_IdentityTwins.j0 k t167 t168 y174 bt179.1 true))) else (none))) else (none)) else (none)) else (none)) else (none)) = some r := by first | (rw [hy170]; with_reducible exact H) | (have H2_ := (Option.bind_some _ _).symm.trans H; rw [hy170]; with_reducible exact H2_) | (have H2_ := (Option.bind_some _ _).symm.trans H; with_reducible exact H2_) | with_reducible exact H | (rw [hy170]; exact H) | exact H
    have Ny170 := Aside0.mk hy170
    clear hy170
    by_cases c8 : 0 ≤ t167
    · rw [if_pos c8] at H
      have c8b0 : decide (0 ≤ t167) = true := decide_eq_true c8
      clear c8
      by_cases c9 : t167 < (y170.length : Int)
      · rw [if_pos c9] at H
        have c9b0 : decide (t167 < (y170.length : Int)) = true := decide_eq_true c9
        clear c9
        obtain ⟨ji10, hji10⟩ : ∃ j_ : Int, (wrap64 (t167 + 1)) = j_ := ⟨_, rfl⟩
        replace H : (if 0 ≤ (ji10) then (if (ji10) < (y170.length : Int) then ((some (y170.set ((ji10) : Int).toNat (rd y170 t167) : List Int)).bind fun y174 => (if 8 ≤ (y170.length : Int) then ((identity_Letter.f k (strOfNums (y174.take 8))).bind fun bt179 => (if bt179.2 = 0 then (awardingbodylaw04_IdentityTwins.j0 k t167 t168 y174 bt179.1 ((bt179.1.size : Int) != 1)) else (awardingbodylaw04_IdentityTwins.j0 k t167 t168 y174 bt179.1 true))) else (none))) else (none)) else (none)) = some r := by first | (rw [hji10] at H; exact H) | (simp only [hji10] at H ⊢; exact H)
        (try rw [hji10] at A4)
        (try rw [hji10] at A5)
        (try rw [hji10] at A6)
        have hji10w : (IntKind.i64.wrap (t167 + 1)) = ji10 := (i64_w _).trans hji10
        by_cases c11 : 0 ≤ (ji10)
        · rw [if_pos c11] at H
          have c11b0 : decide (0 ≤ (ji10)) = true := decide_eq_true c11
          clear c11
          by_cases c12 : (ji10) < (y170.length : Int)
          · rw [if_pos c12] at H
            have c12b0 : decide ((ji10) < (y170.length : Int)) = true := decide_eq_true c12
            clear c12
            obtain ⟨y174, hy174⟩ : ∃ y_ : List Int, y_ = (y170.set ((ji10) : Int).toNat (rd y170 t167)) := ⟨_, rfl⟩
            replace H : (if 8 ≤ (y170.length : Int) then ((identity_Letter.f k (strOfNums (y174.take 8))).bind fun bt179 => (if bt179.2 = 0 then (awardingbodylaw04_IdentityTwins.j0 k t167 t168 y174 bt179.1 ((bt179.1.size : Int) != 1)) else (awardingbodylaw04_IdentityTwins.j0 k t167 t168 y174 bt179.1 true))) else (none)) = some r := by first | (rw [hy174]; with_reducible exact H) | (have H2_ := (Option.bind_some _ _).symm.trans H; rw [hy174]; with_reducible exact H2_) | (have H2_ := (Option.bind_some _ _).symm.trans H; with_reducible exact H2_) | with_reducible exact H | (rw [hy174]; exact H) | exact H
            have Ny174 := Aside0.mk hy174
            clear hy174
            by_cases c14 : 8 ≤ (y170.length : Int)
            · rw [if_pos c14] at H
              have c14b0 := eq_true c14
              have c14b1 : decide (8 ≤ (y170.length : Int)) = true := decide_eq_true c14
              clear c14
              obtain ⟨y175, hy175⟩ : ∃ y_ : List Int, y_ = (y174.take 8) := ⟨_, rfl⟩
              replace H : ((identity_Letter.f k (strOfNums y175)).bind fun bt179 => (if bt179.2 = 0 then (awardingbodylaw04_IdentityTwins.j0 k t167 t168 y174 bt179.1 ((bt179.1.size : Int) != 1)) else (awardingbodylaw04_IdentityTwins.j0 k t167 t168 y174 bt179.1 true))) = some r := by first | (rw [hy175]; with_reducible exact H) | (have H2_ := (Option.bind_some _ _).symm.trans H; rw [hy175]; with_reducible exact H2_) | (have H2_ := (Option.bind_some _ _).symm.trans H; with_reducible exact H2_) | with_reducible exact H | (rw [hy175]; exact H) | exact H
              have Ny175 := Aside0.mk hy175
              clear hy175
              replace H := Option.bind_eq_some_iff.mp H
              obtain ⟨⟨t179, t180⟩, A150, H⟩ := H
              replace H : (if t180 = 0 then (awardingbodylaw04_IdentityTwins.j0 k t167 t168 y174 t179 ((t179.size : Int) != 1)) else (awardingbodylaw04_IdentityTwins.j0 k t167 t168 y174 t179 true)) = some r := H
              have A15 := Aside0.mk A150
              clear A150
              have HC16 := Aside0.mk H
              clear H
              go_enter Try.func8, Try.ntmps8
              go_upto_region 6 with (first | ((with_reducible refine gate_callee (f := 12) rfl ?_); refine goesL_ (some 14) rfl rfl Try.func12 (by kernel_rfl) rfl #[.int .i64 a1, .int .i64 7] rfl (by (try simp only [List.map_toArray, List.map_cons, List.map_nil]); first | done | rfl | (simp only [List.length_drop, List.length_take]; rfl)) ?_; (with_reducible refine (awardingbodymake_Cut.calls a1 7 t167 _ A4.out).mono ?_); rintro e w' ⟨rfl, ⟨nd, rfl⟩⟩; refine ⟨_, rfl, ?_⟩) | ((with_reducible refine gate_callee (f := 12) rfl ?_); refine goesL_ (some 16) rfl rfl Try.func12 (by kernel_rfl) rfl #[.int .i64 a2, .int .i64 10] rfl (by (try simp only [List.map_toArray, List.map_cons, List.map_nil]); first | done | rfl | (simp only [List.length_drop, List.length_take]; rfl)) ?_; (with_reducible refine (awardingbodymake_Cut.calls a2 10 t168 _ A5.out).mono ?_); rintro e w' ⟨rfl, ⟨nd, rfl⟩⟩; refine ⟨_, rfl, ?_⟩) | ((with_reducible refine gate_callee (f := 20) rfl ?_); refine goesL_ (some 18) rfl rfl Try.func20 (by kernel_rfl) rfl #[.int .i64 a0] rfl (by (try simp only [List.map_toArray, List.map_cons, List.map_nil]); first | done | rfl | (simp only [List.length_drop, List.length_take]; rfl)) ?_; (with_reducible refine (awardingbodylaw04_number.calls k a0 t169 _ A6.out).mono ?_); rintro e w17 ⟨rfl, hb⟩; refine ⟨_, rfl, ?_⟩; have n0_ := Aside0.mk (below_step (by repeat (first | (with_reducible first | exact HB.out | apply below_alloc | apply pw_below_drewN | apply below_drew1) | exact HB.out)) hb); clear HB; have HB := n0_; clear n0_; (try clear hb); (try clear hb2); (try clear hk); (try clear hi)) | ((with_reducible refine gate_dst (N := 19) rfl ?_); (try (refine gate_guard (by rfl) ?_; dsimp only)); refine KB.R_bytes _ 5 rfl (N := 19) rfl 9 34 _ rfl t169 rfl Try.underlying9 Try.underlying34 Try.underlying5 (ok := fun _ => True) trivial (of_decide_eq_true (by first | (with_reducible assumption) | assumption)) (Below.refl _ _) (Nat.le_refl _) ?_; intro v171 w18 ho19 hb hg_ hnew_; clear hg_ hnew_; (first | rw [← Ny170.out] at ho19 | (simp only [Int.reduceToNat] at ho19; rw [← Ny170.out] at ho19)); have n0_ := Aside0.mk (KB.R_lower ho19 (below_size (by repeat (first | (with_reducible first | exact HB.out | apply below_alloc | apply pw_below_drewN | apply below_drew1) | exact HB.out)))); have n1_ := Aside0.mk (below_step (by repeat (first | (with_reducible first | exact HB.out | apply below_alloc | apply pw_below_drewN | apply below_drew1) | exact HB.out)) hb); clear HB; have HO172 := n0_; have HB := n1_; clear n0_ n1_; clear hb ho19; obtain ⟨Ao20, co20, eo20⟩ := KB.R_slice HO172.out; subst eo20; have p173 : 0 ≤ (t167 : Int) := of_decide_eq_true (by first | (with_reducible assumption) | assumption); have q173 : t167 < (y170.length : Int) := of_decide_eq_true (by first | (with_reducible assumption) | assumption); obtain ⟨ad173, e173, hx173_0⟩ := Kd.at_int (KB.R_reads' HO172.out).2.2 t167 p173 q173; cases e173; replace p173 := eq_true p173; replace q173 := eq_true q173; have p13 : 0 ≤ ((ji10) : Int) := of_decide_eq_true (by first | (with_reducible assumption) | assumption); have q13 : ((ji10) : Int) < ((y170.length : Int) : Int) := of_decide_eq_true (by first | (with_reducible assumption) | assumption); obtain ⟨go13, co13, eo13, gb13, gl13, cl13, HG13⟩ := KB.R_form HO172.out (by omega); (first | cases eo13 | (injection eo13 with ea_ en_ ec_; (first | subst ea_ | (injection ea_ with ea_; subst ea_)); subst ec_; clear en_)); have GB13 := Aside0.mk gb13; have GG13 := Aside0.mk HG13; clear gb13 gl13 HG13; (first | simp only [add_plain] at hx173_0 | skip); obtain ⟨hx13_0, hf13_0⟩ := KB.R_celln 0 HO172.out ((ji10) : Int) p13 q13; replace p13 := eq_true p13; replace q13 := eq_true q13; obtain ⟨hy21_, hz21_⟩ := KB.R_celln 0 HO172.out ((ji10) : Int) (of_decide_eq_true (by first | (with_reducible assumption) | assumption)) (of_decide_eq_true (by first | (with_reducible assumption) | assumption)); have HP21 := KB.R_putg HO172.out ((ji10) : Int) (rd y170 t167)) | ((with_reducible refine gate_store (t := 5) (p := 27) rfl ?_); refine store_event (t := 5) (p := 27) (v := ?vo_w22) (w1 := (w18.setCell ⟨go13, ((ji10) : Int).toNat, none⟩ (.int .u8 (rd y170 t167)))) ?hg ?ho ?hn ?hr ?_; (case ho => rfl); (case hg => rfl); (case hn => rfl); (case hr => first | (go_simp; done) | (go_simp; rfl)); intro w22 hw; have hg : w18.grownBy w22 (some go13) := (by rw [hw]; exact HP21.2); have hp_ : KB.R (Kd.int .u8) 5 w22 w.heap.size (fun _ => True) (.slice (some ⟨go13, 0, none⟩) y170.length co20) y174 := (by rw [hw, Ny174.out]; exact HP21.1); clear HP21; have n0_ := Aside0.mk (hp_); have n1_ := Aside0.mk ((by rw [hw]; exact below_set (HB.out) GB13.out : Below w.heap.size w w22)); clear HO172; clear HB; have HO172 := n0_; have HB := n1_; clear n0_ n1_; clear hg hw hp_; have hlx23 := (KB.R_reads' HO172.out).1; have q23 : (8 : Int) ≤ ((y170.length : Int) : Int) := of_decide_eq_true (by first | (with_reducible assumption) | assumption); obtain ⟨i023, hi023, _, hsz23, _⟩ := info_parts info5; have hroom23 : y170.length ≤ co20 := (KB.R_reads' HO172.out).2.1; have hroomc23 : y174.length ≤ co20 := (by rw [← hlx23]; exact hroom23); have hC23 : Kd.C (Kd.int .u8) _ (some ⟨go13, 0, none⟩) y174.length y174 := (KB.R_reads' HO172.out).2.2; have hcut23 := cut_to (P := Try.prog) 34 5 .i64 Try.underlying34 hi023 (some ⟨go13, 0, none⟩) y170.length co20 8 (by omega) q23 hroom23; have hr23 := Kd.C_take (m := 8) hC23 (by omega); have hy23 : y175.length = (8 : Int).toNat := (by rw [Ny175.out, List.length_take]; omega); rw [← Ny175.out] at hr23; rw [← hy23] at hcut23; have HR178 := Aside0.mk hr23; have HC178 := Aside0.mk (show y175.length ≤ co20 from by omega); clear hr23 hC23 hroom23 hi023 hsz23 hroomc23; have KY23 := Aside0.mk hy23; clear hy23; have KE23 := Aside0.mk hlx23; have KL23 := Aside0.mk (show 8 ≤ y174.length from by omega); clear hlx23; replace q23 := eq_true q23; have hcv24 := Kd.C_string (P := Try.prog) (A := (some ⟨go13, 0, none⟩)) (c := co20) Try.underlying34 Try.underlying5 Try.underlying9 (by repeat (first | (with_reducible exact HR178.out) | (with_reducible refine Kd.C_alloc ?_ _) | (with_reducible refine Kd.C_drewN ?_ _) | (with_reducible refine Kd.C_drew ?_) | exact HR178.out))) | ((with_reducible refine gate_callee (f := 21) rfl ?_); refine goesL_ (some 32) rfl rfl Try.func21 (by kernel_rfl) rfl #[.string (strOfNums y175)] rfl (by (try simp only [List.map_toArray, List.map_cons, List.map_nil]); first | done | rfl | (simp only [List.length_drop, List.length_take]; rfl)) ?_; (with_reducible refine (identity_Letter.calls k (strOfNums y175) t179 t180 _ A15.out).mono ?_); rintro e w25 ⟨rfl, hb⟩; refine ⟨_, rfl, ?_⟩; have n0_ := Aside0.mk (KB.R_below (by (with_reducible repeat (first | apply KB.R_alloc | apply KB.R_drewN | apply KB.R_drew)); exact HO172.out) hb); have n1_ := Aside0.mk (Kd.C_below (by repeat (first | (with_reducible exact HR178.out) | (with_reducible refine Kd.C_alloc ?_ _) | (with_reducible refine Kd.C_drewN ?_ _) | (with_reducible refine Kd.C_drew ?_) | exact HR178.out)) hb); have n2_ := Aside0.mk (below_step (by repeat (first | (with_reducible first | exact HB.out | apply below_alloc | apply pw_below_drewN | apply below_drew1) | exact HB.out)) hb); clear HO172; clear HR178; clear HB; have HO172 := n0_; have HR178 := n1_; have HB := n2_; clear n0_ n1_ n2_; (try clear hb); (try clear hb2); (try clear hk); (try clear hi)))
              (try simp only [Act.put, List.setIfInBounds_toArray, List.set_cons_zero, List.set_cons_succ])
              go_cut [41] (fun v41 wc => ∃ (kq : Nat) (x41_15 : Bool), v41 = .bool x41_15 ∧ Aside0 (awardingbodylaw04_IdentityTwins.j0 kq t167 t168 y174 t179 x41_15 = some r) ∧ Aside0 (kq ≤ k) ∧ Aside0 (KB.R (Kd.int .u8) 5 wc w.heap.size (fun _ => True) (.slice (some ⟨go13, 0, none⟩) y170.length co20) y174) ∧ Aside0 (Kd.C (Kd.int .u8) wc (some ⟨go13, 0, none⟩) y175.length y175) ∧ Aside0 (Below w.heap.size w wc))
              case first =>
                have H := HC16.out
                clear HC16
                by_cases c26 : t180 = 0
                · rw [if_pos c26] at H
                  have c26b0 : (t180 == 0) = true := beq_iff_eq.mpr c26
                  have c26b1 : (t180 != 0) = false := bne_eq_false_iff_eq.mpr c26
                  clear c26
                  (first | rw [c26b0] | (simp only [i64_w, i32_w]; rw [c26b0]) | skip)
                  have H' := Aside0.mk H
                  clear H
                  go_wp2
                  go_meet
                  case rel => exact ⟨_, (((t179.size : Int) != 1)), (by first | rfl | (simp; done) | (simp [*]; done)), H', ⟨by first | omega | exact Nat.le_refl _⟩, ⟨by (with_reducible repeat (first | apply KB.R_alloc | apply KB.R_drewN | apply KB.R_drew)); exact HO172.out⟩, ⟨by repeat (first | (with_reducible exact HR178.out) | (with_reducible refine Kd.C_alloc ?_ _) | (with_reducible refine Kd.C_drewN ?_ _) | (with_reducible refine Kd.C_drew ?_) | exact HR178.out)⟩, ⟨by repeat (first | (with_reducible first | exact HB.out | apply below_alloc | apply pw_below_drewN | apply below_drew1) | exact HB.out)⟩⟩
                · rw [if_neg c26] at H
                  have c26b0 : (t180 == 0) = false := beq_eq_false_iff_ne.mpr c26
                  have c26b1 : (t180 != 0) = true := bne_iff_ne.mpr c26
                  (first | rw [c26b0] | (simp only [i64_w, i32_w]; rw [c26b0]) | skip)
                  have H' := Aside0.mk H
                  clear H
                  go_wp2
                  go_meet
                  case rel => exact ⟨_, (true), (by first | rfl | (simp; done) | (simp [*]; done)), H', ⟨by first | omega | exact Nat.le_refl _⟩, ⟨by (with_reducible repeat (first | apply KB.R_alloc | apply KB.R_drewN | apply KB.R_drew)); exact HO172.out⟩, ⟨by repeat (first | (with_reducible exact HR178.out) | (with_reducible refine Kd.C_alloc ?_ _) | (with_reducible refine Kd.C_drewN ?_ _) | (with_reducible refine Kd.C_drew ?_) | exact HR178.out)⟩, ⟨by repeat (first | (with_reducible first | exact HB.out | apply below_alloc | apply pw_below_drewN | apply below_drew1) | exact HB.out)⟩⟩
              case rest =>
                clear HC16
                try clear c1
                try clear p1
                try clear q1
                try clear hx1
                try clear c2
                try clear p2
                try clear q2
                try clear hcv2
                try clear p6
                try clear c7
                try clear c7b0
                try clear c7b1
                try clear c7b2
                try clear c8
                try clear c8b0
                try clear c9
                try clear c9b0
                try clear c11
                try clear c11b0
                try clear c12
                try clear c12b0
                try clear p13
                try clear q13
                try clear hx13
                try clear hf13
                try clear c14
                try clear c14b0
                try clear c14b1
                try clear p17
                try clear q17
                try clear hx17
                try clear c20
                try clear c21
                try clear c23
                try clear q23
                try clear hcv24
                try clear c26
                try clear c26b0
                try clear c26b1
                try clear hx13_0
                try clear hx173_0
                try clear p13
                try clear p173
                try clear q13
                try clear q173
                try clear q23
                obtain ⟨kq, x41_15, rfl, HA, HJ15, HO_8, HR178, HB⟩ := hcut
                have hl8_15 := (KB.R_reads' HO_8.out).1
                rw [hl8_15] at HO_8
                (try simp only [hl8_15])
                cases kq with
                | zero => exact absurd HA.out (by simp [awardingbodylaw04_IdentityTwins.j0])
                | succ kj15 =>
                  have H := HA.out
                  clear HA
                  simp only [awardingbodylaw04_IdentityTwins.j0] at H
                  by_cases c27 : x41_15 = true
                  · subst c27
                    have H1 : (some false) = some r := by rw [if_pos rfl] at H; exact H
                    clear H
                    have H := H1
                    clear H1
                    obtain rfl := Option.some.inj H
                    go_wp2
                    go_ret
                    exact ⟨by first | rfl | (simp [errW_none, errW_some] <;> rfl) | (simp only [← hji10]; first | rfl | (simp [errW_none, errW_some] <;> rfl)) | (simp [*, errW_none, errW_some] <;> rfl), by repeat (first | (with_reducible first | exact HB.out | apply below_alloc | apply pw_below_drewN | apply below_drew1) | exact HB.out)⟩
                  · replace c27 := Bool.eq_false_iff.mpr c27
                    subst c27
                    have H1 : (if 0 ≤ t167 then (if t167 < (y174.length : Int) then (if (((rd y174 t167) - 48) % 256) = t168 then ((awardingbodylaw04_awake.f kj15).bind fun t182 => (some t182)) else (if 0 ≤ (wrap64 (t167 + 1)) then (if (wrap64 (t167 + 1)) < (y174.length : Int) then (if 8 ≤ (y174.length : Int) then ((some (((y174.set (t167 : Int).toNat ((wrap64 (48 + t168)) % 256)).set ((wrap64 (t167 + 1)) : Int).toNat ((wrap64 (48 + t168)) % 256)).take 8 : List Int)).bind fun y185 => (if (strOfNums y185).size + t179.size ≤ 9223372036854775807 then ((identity_Parse.f kj15 ((strOfNums y185) ++ t179)).bind fun bt189 => (if bt189.2.2.2 = 24 then ((awardingbodylaw04_awake.f kj15).bind fun t194 => (some t194)) else (some false))) else (none))) else (none)) else (none)) else (none))) else (none)) else (none)) = some r := by rw [if_neg (show ¬ (false = true) by decide)] at H; exact H
                    clear H
                    have H := H1
                    clear H1
                    by_cases c28 : 0 ≤ t167
                    · rw [if_pos c28] at H
                      have c28b0 : decide (0 ≤ t167) = true := decide_eq_true c28
                      clear c28
                      by_cases c29 : t167 < (y174.length : Int)
                      · rw [if_pos c29] at H
                        have c29b0 : decide (t167 < (y174.length : Int)) = true := decide_eq_true c29
                        clear c29
                        by_cases c30 : (((rd y174 t167) - 48) % 256) = t168
                        · rw [if_pos c30] at H
                          have c30b0 : ((((rd y174 t167) - 48) % 256) == t168) = true := beq_iff_eq.mpr c30
                          have c30b1 : ((((rd y174 t167) - 48) % 256) != t168) = false := bne_eq_false_iff_eq.mpr c30
                          clear c30
                          replace H := Option.bind_eq_some_iff.mp H
                          obtain ⟨t182, A310, H⟩ := H
                          replace H : (some t182) = some r := H
                          have A31 := Aside0.mk A310
                          clear A310
                          obtain rfl := Option.some.inj H
                          have p181 : 0 ≤ (t167 : Int) := of_decide_eq_true (by first | (with_reducible assumption) | assumption)
                          have q181 : t167 < (y174.length : Int) := of_decide_eq_true (by first | (with_reducible assumption) | assumption)
                          obtain ⟨ad181, e181, hx181_0⟩ := Kd.at_int (KB.R_reads' HO_8.out).2.2 t167 p181 q181
                          obtain rfl : (⟨go13, 0, none⟩ : Addr) = ad181 := (by injection e181)
                          (first | simp only [add_plain] at hx181_0 | simp only [add_at] at hx181_0 | simp only [Addr.add, Nat.zero_add] at hx181_0 | skip)
                          replace p181 := eq_true p181
                          replace q181 := eq_true q181
                          go_wp2_with (first | ((with_reducible refine gate_callee (f := 17) rfl ?_); refine goesL_ (some 50) rfl rfl Try.func17 (by kernel_rfl) rfl #[] rfl (by (try simp only [List.map_toArray, List.map_cons, List.map_nil]); first | done | rfl | (simp only [List.length_drop, List.length_take]; rfl)) ?_; (with_reducible refine (awardingbodylaw04_awake.calls kj15  t182 _ A31.out).mono ?_); rintro e w32 ⟨rfl, hb⟩; refine ⟨_, rfl, ?_⟩; have n0_ := Aside0.mk (KB.R_below (by (with_reducible repeat (first | apply KB.R_alloc | apply KB.R_drewN | apply KB.R_drew)); exact HO_8.out) hb); have n1_ := Aside0.mk (below_step (by repeat (first | (with_reducible first | exact HB.out | apply below_alloc | apply pw_below_drewN | apply below_drew1) | exact HB.out)) hb); clear HO_8; clear HB; have HO_8 := n0_; have HB := n1_; clear n0_ n1_; (try clear hb); (try clear hb2); (try clear hk); (try clear hi)))
                          go_ret
                          exact ⟨by first | rfl | (simp [errW_none, errW_some] <;> rfl) | (simp only [← hji10]; first | rfl | (simp [errW_none, errW_some] <;> rfl)) | (simp [*, errW_none, errW_some] <;> rfl), by repeat (first | (with_reducible first | exact HB.out | apply below_alloc | apply pw_below_drewN | apply below_drew1) | exact HB.out)⟩
                        · rw [if_neg c30] at H
                          have c30b0 : ((((rd y174 t167) - 48) % 256) == t168) = false := beq_eq_false_iff_ne.mpr c30
                          have c30b1 : ((((rd y174 t167) - 48) % 256) != t168) = true := bne_iff_ne.mpr c30
                          obtain ⟨y183, hy183⟩ : ∃ y_ : List Int, y_ = (y174.set (t167 : Int).toNat ((wrap64 (48 + t168)) % 256)) := ⟨_, rfl⟩
                          replace H : (if 0 ≤ (wrap64 (t167 + 1)) then (if (wrap64 (t167 + 1)) < (y174.length : Int) then (if 8 ≤ (y174.length : Int) then ((some ((y183.set ((wrap64 (t167 + 1)) : Int).toNat ((wrap64 (48 + t168)) % 256)).take 8 : List Int)).bind fun y185 => (if (strOfNums y185).size + t179.size ≤ 9223372036854775807 then ((identity_Parse.f kj15 ((strOfNums y185) ++ t179)).bind fun bt189 => (if bt189.2.2.2 = 24 then ((awardingbodylaw04_awake.f kj15).bind fun t194 => (some t194)) else (some false))) else (none))) else (none)) else (none)) else (none)) = some r := by first | (rw [hy183]; with_reducible exact H) | (have H2_ := (Option.bind_some _ _).symm.trans H; rw [hy183]; with_reducible exact H2_) | (have H2_ := (Option.bind_some _ _).symm.trans H; with_reducible exact H2_) | with_reducible exact H | (rw [hy183]; exact H) | exact H
                          have Ny183 := Aside0.mk hy183
                          clear hy183
                          obtain ⟨ji34, hji34⟩ : ∃ j_ : Int, (wrap64 (t167 + 1)) = j_ := ⟨_, rfl⟩
                          replace H : (if 0 ≤ (ji34) then (if (ji34) < (y174.length : Int) then (if 8 ≤ (y174.length : Int) then ((some ((y183.set ((ji34) : Int).toNat ((wrap64 (48 + t168)) % 256)).take 8 : List Int)).bind fun y185 => (if (strOfNums y185).size + t179.size ≤ 9223372036854775807 then ((identity_Parse.f kj15 ((strOfNums y185) ++ t179)).bind fun bt189 => (if bt189.2.2.2 = 24 then ((awardingbodylaw04_awake.f kj15).bind fun t194 => (some t194)) else (some false))) else (none))) else (none)) else (none)) else (none)) = some r := by first | (rw [hji34] at H; exact H) | (simp only [hji34] at H ⊢; exact H)
                          have hji34w : (IntKind.i64.wrap (t167 + 1)) = ji34 := (i64_w _).trans hji34
                          have hj_ := hji34.symm.trans hji10; subst hj_
                          by_cases c35 : 0 ≤ (ji34)
                          · rw [if_pos c35] at H
                            have c35b0 : decide (0 ≤ (ji34)) = true := decide_eq_true c35
                            clear c35
                            by_cases c36 : (ji34) < (y174.length : Int)
                            · rw [if_pos c36] at H
                              have c36b0 : decide ((ji34) < (y174.length : Int)) = true := decide_eq_true c36
                              clear c36
                              obtain ⟨y184, hy184⟩ : ∃ y_ : List Int, y_ = (y183.set ((ji34) : Int).toNat ((wrap64 (48 + t168)) % 256)) := ⟨_, rfl⟩
                              replace H : (if 8 ≤ (y174.length : Int) then ((some (y184.take 8 : List Int)).bind fun y185 => (if (strOfNums y185).size + t179.size ≤ 9223372036854775807 then ((identity_Parse.f kj15 ((strOfNums y185) ++ t179)).bind fun bt189 => (if bt189.2.2.2 = 24 then ((awardingbodylaw04_awake.f kj15).bind fun t194 => (some t194)) else (some false))) else (none))) else (none)) = some r := by first | (rw [hy184]; with_reducible exact H) | (have H2_ := (Option.bind_some _ _).symm.trans H; rw [hy184]; with_reducible exact H2_) | (have H2_ := (Option.bind_some _ _).symm.trans H; with_reducible exact H2_) | with_reducible exact H | (rw [hy184]; exact H) | exact H
                              have Ny184 := Aside0.mk hy184
                              clear hy184
                              by_cases c38 : 8 ≤ (y174.length : Int)
                              · rw [if_pos c38] at H
                                have c38b0 := eq_true c38
                                have c38b1 : decide (8 ≤ (y174.length : Int)) = true := decide_eq_true c38
                                clear c38
                                obtain ⟨y185, hy185⟩ : ∃ y_ : List Int, y_ = (y184.take 8) := ⟨_, rfl⟩
                                replace H : (if (strOfNums y185).size + t179.size ≤ 9223372036854775807 then ((identity_Parse.f kj15 ((strOfNums y185) ++ t179)).bind fun bt189 => (if bt189.2.2.2 = 24 then ((awardingbodylaw04_awake.f kj15).bind fun t194 => (some t194)) else (some false))) else (none)) = some r := by first | (rw [hy185]; with_reducible exact H) | (have H2_ := (Option.bind_some _ _).symm.trans H; rw [hy185]; with_reducible exact H2_) | (have H2_ := (Option.bind_some _ _).symm.trans H; with_reducible exact H2_) | with_reducible exact H | (rw [hy185]; exact H) | exact H
                                have Ny185 := Aside0.mk hy185
                                clear hy185
                                by_cases c39 : (strOfNums y185).size + t179.size ≤ 9223372036854775807
                                · rw [if_pos c39] at H
                                  have c39b0 := eq_true c39
                                  have c39b1 : decide ((strOfNums y185).size + t179.size ≤ 9223372036854775807) = true := decide_eq_true c39
                                  try have c39b2 : (9223372036854775807 < (strOfNums y185).size + t179.size) = False := eq_false (Nat.not_lt.2 c39)
                                  replace H := Option.bind_eq_some_iff.mp H
                                  obtain ⟨⟨t189, t190, t191, t192⟩, A400, H⟩ := H
                                  replace H : (if t192 = 24 then ((awardingbodylaw04_awake.f kj15).bind fun t194 => (some t194)) else (some false)) = some r := H
                                  have A40 := Aside0.mk A400
                                  clear A400
                                  by_cases c41 : t192 = 24
                                  · rw [if_pos c41] at H
                                    have c41b0 : (t192 == 24) = true := beq_iff_eq.mpr c41
                                    have c41b1 : (t192 != 24) = false := bne_eq_false_iff_eq.mpr c41
                                    clear c41
                                    replace H := Option.bind_eq_some_iff.mp H
                                    obtain ⟨t194, A420, H⟩ := H
                                    replace H : (some t194) = some r := H
                                    have A42 := Aside0.mk A420
                                    clear A420
                                    obtain rfl := Option.some.inj H
                                    have p181 : 0 ≤ (t167 : Int) := of_decide_eq_true (by first | (with_reducible assumption) | assumption)
                                    have q181 : t167 < (y174.length : Int) := of_decide_eq_true (by first | (with_reducible assumption) | assumption)
                                    obtain ⟨ad181, e181, hx181_0⟩ := Kd.at_int (KB.R_reads' HO_8.out).2.2 t167 p181 q181
                                    obtain rfl : (⟨go13, 0, none⟩ : Addr) = ad181 := (by injection e181)
                                    (first | simp only [add_plain] at hx181_0 | simp only [add_at] at hx181_0 | simp only [Addr.add, Nat.zero_add] at hx181_0 | skip)
                                    replace p181 := eq_true p181
                                    replace q181 := eq_true q181
                                    have p33 : 0 ≤ (t167 : Int) := of_decide_eq_true (by first | (with_reducible assumption) | assumption)
                                    have q33 : (t167 : Int) < ((y174.length : Int) : Int) := of_decide_eq_true (by first | (with_reducible assumption) | assumption)
                                    obtain ⟨hx33_0, hf33_0⟩ := KB.R_celln 0 HO_8.out (t167 : Int) p33 q33
                                    replace p33 := eq_true p33
                                    replace q33 := eq_true q33
                                    have HP43 := KB.R_putg HO_8.out (t167 : Int) ((wrap64 (48 + t168)) % 256)
                                    go_wp2_with (first | ((with_reducible refine gate_store (t := 5) (p := 62) rfl ?_); refine store_event (t := 5) (p := 62) (v := ?vo_w44) (w1 := (wc.setCell ⟨go13, (t167 : Int).toNat, none⟩ (.int .u8 ((wrap64 (48 + t168)) % 256)))) ?hg ?ho ?hn ?hr ?_; (case ho => rfl); (case hg => rfl); (case hn => rfl); (case hr => first | (go_simp; done) | (go_simp; rfl)); intro w44 hw; have hg : wc.grownBy w44 (some go13) := (by rw [hw]; exact HP43.2); have hp_ : KB.R (Kd.int .u8) 5 w44 w.heap.size (fun _ => True) (.slice (some ⟨go13, 0, none⟩) y174.length co20) y183 := (by rw [hw, Ny183.out]; exact HP43.1); clear HP43; have n0_ := Aside0.mk (hp_); have n1_ := Aside0.mk ((by rw [hw]; exact below_set (HB.out) GB13.out : Below w.heap.size w w44)); clear HO_8; clear HB; have HO_8 := n0_; have HB := n1_; clear n0_ n1_; clear hg hw hp_; have p37 : 0 ≤ ((ji34) : Int) := of_decide_eq_true (by first | (with_reducible assumption) | assumption); have q37 : ((ji34) : Int) < ((y174.length : Int) : Int) := of_decide_eq_true (by first | (with_reducible assumption) | assumption); obtain ⟨hx37_0, hf37_0⟩ := KB.R_celln 0 HO_8.out ((ji34) : Int) p37 q37; replace p37 := eq_true p37; replace q37 := eq_true q37; obtain ⟨hy45_, hz45_⟩ := KB.R_celln 0 HO_8.out ((ji34) : Int) (of_decide_eq_true (by first | (with_reducible assumption) | assumption)) (of_decide_eq_true (by first | (with_reducible assumption) | assumption)); have HP45 := KB.R_putg HO_8.out ((ji34) : Int) ((wrap64 (48 + t168)) % 256)) | ((with_reducible refine gate_store (t := 5) (p := 63) rfl ?_); refine store_event (t := 5) (p := 63) (v := ?vo_w46) (w1 := (w44.setCell ⟨go13, ((ji34) : Int).toNat, none⟩ (.int .u8 ((wrap64 (48 + t168)) % 256)))) ?hg ?ho ?hn ?hr ?_; (case ho => rfl); (case hg => rfl); (case hn => rfl); (case hr => first | (go_simp; done) | (go_simp; rfl)); intro w46 hw; have hg : w44.grownBy w46 (some go13) := (by rw [hw]; exact HP45.2); have hp_ : KB.R (Kd.int .u8) 5 w46 w.heap.size (fun _ => True) (.slice (some ⟨go13, 0, none⟩) y174.length co20) y184 := (by rw [hw, Ny184.out]; exact HP45.1); clear HP45; have n0_ := Aside0.mk (hp_); have n1_ := Aside0.mk ((by rw [hw]; exact below_set (HB.out) GB13.out : Below w.heap.size w w46)); clear HO_8; clear HB; have HO_8 := n0_; have HB := n1_; clear n0_ n1_; clear hg hw hp_; have hlx47 := (KB.R_reads' HO_8.out).1; have q47 : (8 : Int) ≤ ((y174.length : Int) : Int) := of_decide_eq_true (by first | (with_reducible assumption) | assumption); obtain ⟨i047, hi047, _, hsz47, _⟩ := info_parts info5; have hroom47 : y174.length ≤ co20 := (KB.R_reads' HO_8.out).2.1; have hroomc47 : y184.length ≤ co20 := (by rw [← hlx47]; exact hroom47); have hC47 : Kd.C (Kd.int .u8) _ (some ⟨go13, 0, none⟩) y184.length y184 := (KB.R_reads' HO_8.out).2.2; have hcut47 := cut_to (P := Try.prog) 34 5 .i64 Try.underlying34 hi047 (some ⟨go13, 0, none⟩) y174.length co20 8 (by omega) q47 hroom47; have hr47 := Kd.C_take (m := 8) hC47 (by omega); have hy47 : y185.length = (8 : Int).toNat := (by rw [Ny185.out, List.length_take]; omega); rw [← Ny185.out] at hr47; rw [← hy47] at hcut47; have HR188 := Aside0.mk hr47; have HC188 := Aside0.mk (show y185.length ≤ co20 from by omega); clear hr47 hC47 hroom47 hi047 hsz47 hroomc47; have KY47 := Aside0.mk hy47; clear hy47; have KE47 := Aside0.mk hlx47; have KL47 := Aside0.mk (show 8 ≤ y184.length from by omega); clear hlx47; replace q47 := eq_true q47; have hcv48 := Kd.C_string (P := Try.prog) (A := (some ⟨go13, 0, none⟩)) (c := co20) Try.underlying34 Try.underlying5 Try.underlying9 (by repeat (first | (with_reducible exact HR188.out) | (with_reducible refine Kd.C_alloc ?_ _) | (with_reducible refine Kd.C_drewN ?_ _) | (with_reducible refine Kd.C_drew ?_) | exact HR188.out))) | ((with_reducible refine gate_callee (f := 18) rfl ?_); refine goesL_ (some 70) rfl rfl Try.func18 (by kernel_rfl) rfl #[.string ((strOfNums y185) ++ t179)] rfl (by (try simp only [List.map_toArray, List.map_cons, List.map_nil]); first | done | rfl | (simp only [List.length_drop, List.length_take]; rfl)) ?_; (with_reducible refine (identity_Parse.calls kj15 ((strOfNums y185) ++ t179) t189 t190 t191 t192 _ A40.out).mono ?_); rintro e w49 ⟨rfl, hb⟩; refine ⟨_, rfl, ?_⟩; have n0_ := Aside0.mk (KB.R_below (by (with_reducible repeat (first | apply KB.R_alloc | apply KB.R_drewN | apply KB.R_drew)); exact HO_8.out) hb); have n1_ := Aside0.mk (Kd.C_below (by repeat (first | (with_reducible exact HR188.out) | (with_reducible refine Kd.C_alloc ?_ _) | (with_reducible refine Kd.C_drewN ?_ _) | (with_reducible refine Kd.C_drew ?_) | exact HR188.out)) hb); have n2_ := Aside0.mk (below_step (by repeat (first | (with_reducible first | exact HB.out | apply below_alloc | apply pw_below_drewN | apply below_drew1) | exact HB.out)) hb); clear HO_8; clear HR188; clear HB; have HO_8 := n0_; have HR188 := n1_; have HB := n2_; clear n0_ n1_ n2_; (try clear hb); (try clear hb2); (try clear hk); (try clear hi)) | ((with_reducible refine gate_dst (N := 11) rfl ?_); (try (refine gate_guard (by rfl) ?_; dsimp only)); refine box_event ?hg (N := 11) ?hd (cs := #[.int .i64 0, .int .i64 0, .int .i64 0]) (t := 23) ?hr ?_; (case hd => rfl); (case hg => rfl); (case hr => first | (go_simp; done) | (go_simp; rfl)); intro gb193 hg w50 hbox hb; have n0_ := Aside0.mk (KB.R_below (by (with_reducible repeat (first | apply KB.R_alloc | apply KB.R_drewN | apply KB.R_drew)); exact HO_8.out) hb); have n1_ := Aside0.mk (Kd.C_below (by repeat (first | (with_reducible exact HR188.out) | (with_reducible refine Kd.C_alloc ?_ _) | (with_reducible refine Kd.C_drewN ?_ _) | (with_reducible refine Kd.C_drew ?_) | exact HR188.out)) hb); have n2_ := Aside0.mk (below_step (by repeat (first | (with_reducible first | exact HB.out | apply below_alloc | apply pw_below_drewN | apply below_drew1) | exact HB.out)) hb); have n3_ := Aside0.mk (hbox); have n4_ := Aside0.mk ((by rw [hg]; exact (below_size (by repeat (first | (with_reducible first | exact HB.out | apply below_alloc | apply pw_below_drewN | apply below_drew1) | exact HB.out))) : w.heap.size ≤ gb193)); have n5_ := Aside0.mk ((by rw [hg]; exact (below_size (by repeat (first | (with_reducible first | exact HB.out | apply below_alloc | apply pw_below_drewN | apply below_drew1) | exact HB.out))) : w.heap.size ≤ gb193)); clear HO_8; clear HR188; clear HB; have HO_8 := n0_; have HR188 := n1_; have HB := n2_; have BK193 := n3_; have GW193 := n4_; have GE193 := n5_; clear n0_ n1_ n2_ n3_ n4_ n5_; clear hb hbox hg; have hcz51_0 : w50.cell? ⟨gb193, 0, none⟩ = some (.int .i64 0) := (blk_cell BK193.out 0).trans rfl; have hcz51_1 : w50.cell? ⟨gb193, 1, none⟩ = some (.int .i64 0) := (blk_cell BK193.out 1).trans rfl; have hcz51_2 : w50.cell? ⟨gb193, 2, none⟩ = some (.int .i64 0) := (blk_cell BK193.out 2).trans rfl; have hfz51_0 := blk_frozen BK193.out 0; have hfz51_1 := blk_frozen BK193.out 1; have hfz51_2 := blk_frozen BK193.out 2) | (go_at_call 17; (with_reducible refine (awardingbodylaw04_awake.calls kj15  t194 _ A42.out).mono ?_); rintro e w52 ⟨rfl, hb⟩; have n0_ := Aside0.mk (KB.R_below (by (with_reducible repeat (first | apply KB.R_alloc | apply KB.R_drewN | apply KB.R_drew)); exact (KB.R_mono (KB.R_far (p := ⟨gb193, 2, none⟩) (KB.R_far (p := ⟨gb193, 1, none⟩) (KB.R_far (p := ⟨gb193, 0, none⟩) (KB.R_types HO_8.out BK193.out (by decide)) (fun _ hk => hk.2) (.int .i64 t189)) (fun _ hk => hk.2) (.int .i64 t190)) (fun _ hk => hk.2) (.int .i64 t191)) (fun _ h_ => h_.1))) hb); have n1_ := Aside0.mk (blk_below (g := gb193) (o := .cells #[.int .i64 t189, .int .i64 t190, .int .i64 t191] 23 (0, 0)) (by (with_reducible repeat (first | refine blk_drewN ?_ _ | refine blk_drew ?_ | refine blk_alloc ?_ _)); refine blk_put (cs := #[.int .i64 t189, .int .i64 t190, .int .i64 0]) ?_ 2 _ rfl; (with_reducible repeat (first | refine blk_drewN ?_ _ | refine blk_drew ?_ | refine blk_alloc ?_ _)); refine blk_put (cs := #[.int .i64 t189, .int .i64 0, .int .i64 0]) ?_ 1 _ rfl; (with_reducible repeat (first | refine blk_drewN ?_ _ | refine blk_drew ?_ | refine blk_alloc ?_ _)); refine blk_put (cs := #[.int .i64 0, .int .i64 0, .int .i64 0]) ?_ 0 _ rfl; (with_reducible repeat (first | refine blk_drewN ?_ _ | refine blk_drew ?_ | refine blk_alloc ?_ _)); exact BK193.out) hb); have n2_ := Aside0.mk (below_step (by repeat (first | (with_reducible first | exact HB.out | apply below_alloc | apply pw_below_drewN | apply below_drew1 | refine below_set ?_ GE193.out) | exact HB.out)) hb); clear HO_8; clear BK193; clear HB; have HO_8 := n0_; have BK193 := n1_; have HB := n2_; clear n0_ n1_ n2_; (try clear hb); (try clear hb2); (try clear hk); (try clear hi)))
                                    go_ret
                                    exact ⟨by first | rfl | (simp [errW_none, errW_some] <;> rfl) | (simp only [← hji10, ← hji34]; first | rfl | (simp [errW_none, errW_some] <;> rfl)) | (simp [*, errW_none, errW_some] <;> rfl), by repeat (first | (with_reducible first | exact HB.out | apply below_alloc | apply pw_below_drewN | apply below_drew1 | refine below_set ?_ GE193.out) | exact HB.out)⟩
                                  · rw [if_neg c41] at H
                                    have c41b0 : (t192 == 24) = false := beq_eq_false_iff_ne.mpr c41
                                    have c41b1 : (t192 != 24) = true := bne_iff_ne.mpr c41
                                    obtain rfl := Option.some.inj H
                                    have p181 : 0 ≤ (t167 : Int) := of_decide_eq_true (by first | (with_reducible assumption) | assumption)
                                    have q181 : t167 < (y174.length : Int) := of_decide_eq_true (by first | (with_reducible assumption) | assumption)
                                    obtain ⟨ad181, e181, hx181_0⟩ := Kd.at_int (KB.R_reads' HO_8.out).2.2 t167 p181 q181
                                    obtain rfl : (⟨go13, 0, none⟩ : Addr) = ad181 := (by injection e181)
                                    (first | simp only [add_plain] at hx181_0 | simp only [add_at] at hx181_0 | simp only [Addr.add, Nat.zero_add] at hx181_0 | skip)
                                    replace p181 := eq_true p181
                                    replace q181 := eq_true q181
                                    have p33 : 0 ≤ (t167 : Int) := of_decide_eq_true (by first | (with_reducible assumption) | assumption)
                                    have q33 : (t167 : Int) < ((y174.length : Int) : Int) := of_decide_eq_true (by first | (with_reducible assumption) | assumption)
                                    obtain ⟨hx33_0, hf33_0⟩ := KB.R_celln 0 HO_8.out (t167 : Int) p33 q33
                                    replace p33 := eq_true p33
                                    replace q33 := eq_true q33
                                    have HP53 := KB.R_putg HO_8.out (t167 : Int) ((wrap64 (48 + t168)) % 256)
                                    go_wp2_with (first | ((with_reducible refine gate_store (t := 5) (p := 62) rfl ?_); refine store_event (t := 5) (p := 62) (v := ?vo_w54) (w1 := (wc.setCell ⟨go13, (t167 : Int).toNat, none⟩ (.int .u8 ((wrap64 (48 + t168)) % 256)))) ?hg ?ho ?hn ?hr ?_; (case ho => rfl); (case hg => rfl); (case hn => rfl); (case hr => first | (go_simp; done) | (go_simp; rfl)); intro w54 hw; have hg : wc.grownBy w54 (some go13) := (by rw [hw]; exact HP53.2); have hp_ : KB.R (Kd.int .u8) 5 w54 w.heap.size (fun _ => True) (.slice (some ⟨go13, 0, none⟩) y174.length co20) y183 := (by rw [hw, Ny183.out]; exact HP53.1); clear HP53; have n0_ := Aside0.mk (hp_); have n1_ := Aside0.mk ((by rw [hw]; exact below_set (HB.out) GB13.out : Below w.heap.size w w54)); clear HO_8; clear HB; have HO_8 := n0_; have HB := n1_; clear n0_ n1_; clear hg hw hp_; have p37 : 0 ≤ ((ji34) : Int) := of_decide_eq_true (by first | (with_reducible assumption) | assumption); have q37 : ((ji34) : Int) < ((y174.length : Int) : Int) := of_decide_eq_true (by first | (with_reducible assumption) | assumption); obtain ⟨hx37_0, hf37_0⟩ := KB.R_celln 0 HO_8.out ((ji34) : Int) p37 q37; replace p37 := eq_true p37; replace q37 := eq_true q37; obtain ⟨hy55_, hz55_⟩ := KB.R_celln 0 HO_8.out ((ji34) : Int) (of_decide_eq_true (by first | (with_reducible assumption) | assumption)) (of_decide_eq_true (by first | (with_reducible assumption) | assumption)); have HP55 := KB.R_putg HO_8.out ((ji34) : Int) ((wrap64 (48 + t168)) % 256)) | ((with_reducible refine gate_store (t := 5) (p := 63) rfl ?_); refine store_event (t := 5) (p := 63) (v := ?vo_w56) (w1 := (w54.setCell ⟨go13, ((ji34) : Int).toNat, none⟩ (.int .u8 ((wrap64 (48 + t168)) % 256)))) ?hg ?ho ?hn ?hr ?_; (case ho => rfl); (case hg => rfl); (case hn => rfl); (case hr => first | (go_simp; done) | (go_simp; rfl)); intro w56 hw; have hg : w54.grownBy w56 (some go13) := (by rw [hw]; exact HP55.2); have hp_ : KB.R (Kd.int .u8) 5 w56 w.heap.size (fun _ => True) (.slice (some ⟨go13, 0, none⟩) y174.length co20) y184 := (by rw [hw, Ny184.out]; exact HP55.1); clear HP55; have n0_ := Aside0.mk (hp_); have n1_ := Aside0.mk ((by rw [hw]; exact below_set (HB.out) GB13.out : Below w.heap.size w w56)); clear HO_8; clear HB; have HO_8 := n0_; have HB := n1_; clear n0_ n1_; clear hg hw hp_; have hlx57 := (KB.R_reads' HO_8.out).1; have q57 : (8 : Int) ≤ ((y174.length : Int) : Int) := of_decide_eq_true (by first | (with_reducible assumption) | assumption); obtain ⟨i057, hi057, _, hsz57, _⟩ := info_parts info5; have hroom57 : y174.length ≤ co20 := (KB.R_reads' HO_8.out).2.1; have hroomc57 : y184.length ≤ co20 := (by rw [← hlx57]; exact hroom57); have hC57 : Kd.C (Kd.int .u8) _ (some ⟨go13, 0, none⟩) y184.length y184 := (KB.R_reads' HO_8.out).2.2; have hcut57 := cut_to (P := Try.prog) 34 5 .i64 Try.underlying34 hi057 (some ⟨go13, 0, none⟩) y174.length co20 8 (by omega) q57 hroom57; have hr57 := Kd.C_take (m := 8) hC57 (by omega); have hy57 : y185.length = (8 : Int).toNat := (by rw [Ny185.out, List.length_take]; omega); rw [← Ny185.out] at hr57; rw [← hy57] at hcut57; have HR188 := Aside0.mk hr57; have HC188 := Aside0.mk (show y185.length ≤ co20 from by omega); clear hr57 hC57 hroom57 hi057 hsz57 hroomc57; have KY57 := Aside0.mk hy57; clear hy57; have KE57 := Aside0.mk hlx57; have KL57 := Aside0.mk (show 8 ≤ y184.length from by omega); clear hlx57; replace q57 := eq_true q57; have hcv58 := Kd.C_string (P := Try.prog) (A := (some ⟨go13, 0, none⟩)) (c := co20) Try.underlying34 Try.underlying5 Try.underlying9 (by repeat (first | (with_reducible exact HR188.out) | (with_reducible refine Kd.C_alloc ?_ _) | (with_reducible refine Kd.C_drewN ?_ _) | (with_reducible refine Kd.C_drew ?_) | exact HR188.out))) | ((with_reducible refine gate_callee (f := 18) rfl ?_); refine goesL_ (some 70) rfl rfl Try.func18 (by kernel_rfl) rfl #[.string ((strOfNums y185) ++ t179)] rfl (by (try simp only [List.map_toArray, List.map_cons, List.map_nil]); first | done | rfl | (simp only [List.length_drop, List.length_take]; rfl)) ?_; (with_reducible refine (identity_Parse.calls kj15 ((strOfNums y185) ++ t179) t189 t190 t191 t192 _ A40.out).mono ?_); rintro e w59 ⟨rfl, hb⟩; refine ⟨_, rfl, ?_⟩; have n0_ := Aside0.mk (KB.R_below (by (with_reducible repeat (first | apply KB.R_alloc | apply KB.R_drewN | apply KB.R_drew)); exact HO_8.out) hb); have n1_ := Aside0.mk (Kd.C_below (by repeat (first | (with_reducible exact HR188.out) | (with_reducible refine Kd.C_alloc ?_ _) | (with_reducible refine Kd.C_drewN ?_ _) | (with_reducible refine Kd.C_drew ?_) | exact HR188.out)) hb); have n2_ := Aside0.mk (below_step (by repeat (first | (with_reducible first | exact HB.out | apply below_alloc | apply pw_below_drewN | apply below_drew1) | exact HB.out)) hb); clear HO_8; clear HR188; clear HB; have HO_8 := n0_; have HR188 := n1_; have HB := n2_; clear n0_ n1_ n2_; (try clear hb); (try clear hb2); (try clear hk); (try clear hi)) | ((with_reducible refine gate_dst (N := 11) rfl ?_); (try (refine gate_guard (by rfl) ?_; dsimp only)); refine box_event ?hg (N := 11) ?hd (cs := #[.int .i64 0, .int .i64 0, .int .i64 0]) (t := 23) ?hr ?_; (case hd => rfl); (case hg => rfl); (case hr => first | (go_simp; done) | (go_simp; rfl)); intro gb193 hg w60 hbox hb; have n0_ := Aside0.mk (KB.R_below (by (with_reducible repeat (first | apply KB.R_alloc | apply KB.R_drewN | apply KB.R_drew)); exact HO_8.out) hb); have n1_ := Aside0.mk (Kd.C_below (by repeat (first | (with_reducible exact HR188.out) | (with_reducible refine Kd.C_alloc ?_ _) | (with_reducible refine Kd.C_drewN ?_ _) | (with_reducible refine Kd.C_drew ?_) | exact HR188.out)) hb); have n2_ := Aside0.mk (below_step (by repeat (first | (with_reducible first | exact HB.out | apply below_alloc | apply pw_below_drewN | apply below_drew1) | exact HB.out)) hb); have n3_ := Aside0.mk (hbox); have n4_ := Aside0.mk ((by rw [hg]; exact (below_size (by repeat (first | (with_reducible first | exact HB.out | apply below_alloc | apply pw_below_drewN | apply below_drew1) | exact HB.out))) : w.heap.size ≤ gb193)); have n5_ := Aside0.mk ((by rw [hg]; exact (below_size (by repeat (first | (with_reducible first | exact HB.out | apply below_alloc | apply pw_below_drewN | apply below_drew1) | exact HB.out))) : w.heap.size ≤ gb193)); clear HO_8; clear HR188; clear HB; have HO_8 := n0_; have HR188 := n1_; have HB := n2_; have BK193 := n3_; have GW193 := n4_; have GE193 := n5_; clear n0_ n1_ n2_ n3_ n4_ n5_; clear hb hbox hg; have hcz61_0 : w60.cell? ⟨gb193, 0, none⟩ = some (.int .i64 0) := (blk_cell BK193.out 0).trans rfl; have hcz61_1 : w60.cell? ⟨gb193, 1, none⟩ = some (.int .i64 0) := (blk_cell BK193.out 1).trans rfl; have hcz61_2 : w60.cell? ⟨gb193, 2, none⟩ = some (.int .i64 0) := (blk_cell BK193.out 2).trans rfl; have hfz61_0 := blk_frozen BK193.out 0; have hfz61_1 := blk_frozen BK193.out 1; have hfz61_2 := blk_frozen BK193.out 2))
                                    go_ret
                                    exact ⟨by first | rfl | (simp [errW_none, errW_some] <;> rfl) | (simp only [← hji10, ← hji34]; first | rfl | (simp [errW_none, errW_some] <;> rfl)) | (simp [*, errW_none, errW_some] <;> rfl), by repeat (first | (with_reducible first | exact HB.out | apply below_alloc | apply pw_below_drewN | apply below_drew1 | refine below_set ?_ GE193.out) | exact HB.out)⟩
                                · rw [if_neg c39] at H
                                  exact absurd H (by simp)
                              · rw [if_neg c38] at H
                                exact absurd H (by simp)
                            · rw [if_neg c36] at H
                              exact absurd H (by simp)
                          · rw [if_neg c35] at H
                            exact absurd H (by simp)
                      · rw [if_neg c29] at H
                        exact absurd H (by simp)
                    · rw [if_neg c28] at H
                      exact absurd H (by simp)
            · rw [if_neg c14] at H
              exact absurd H (by simp)
          · rw [if_neg c12] at H
            exact absurd H (by simp)
        · rw [if_neg c11] at H
          exact absurd H (by simp)
      · rw [if_neg c9] at H
        exact absurd H (by simp)
    · rw [if_neg c8] at H
      exact absurd H (by simp)
  · rw [if_neg c7] at H
    exact absurd H (by simp)

/-- THE ONE PURE STATEMENT of awardingbodylaw04_IdentityTwins: yours. -/
def awardingbodylaw04_IdentityTwins.Pure : Prop := ∀ (a0 : Int) (a1 : Int) (a2 : Int), (Lit.int .i64 a0).wf = true → (Lit.int .i64 a1).wf = true → (Lit.int .i64 a2).wf = true → ∃ k, awardingbodylaw04_IdentityTwins.f k a0 a1 a2 = some true
theorem awardingbodylaw04_IdentityTwins.walk (P : awardingbodylaw04_IdentityTwins.Pure) (a0 : Int) (a1 : Int) (a2 : Int) (w : World) (w0 : (Lit.int .i64 a0).wf = true) (w1 : (Lit.int .i64 a1).wf = true) (w2 : (Lit.int .i64 a2).wf = true) :
    Calls Try.prog 8 #[.int .i64 a0, .int .i64 a1, .int .i64 a2] w fun e w' => e = .returned (.bool true) ∧ Below w.heap.size w w' := by
  obtain ⟨k, h⟩ := P a0 a1 a2 w0 w1 w2
  refine (awardingbodylaw04_IdentityTwins.calls k a0 a1 a2 true w h).mono ?_
  rintro e w' ⟨rfl, hd⟩
  exact ⟨rfl, hd⟩

end Go.Proofs.Ytogkjlfinjlngaa.XU
