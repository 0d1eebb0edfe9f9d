/- Go functions of the program as plain Lean functions with a number of rounds, and that the calls come to exactly their answers. Conditions: those in each theorem. Written by a program of this project (wip/tools/xprint.py). -/
import Derived.Test.YtijmmnlhbbmhlaaXAx0
namespace Go.Proofs.Ytijmmnlhbbmhlaa.XA
open Go.RowKit Go.Proofs.Ytijmmnlhbbmhlaa.Ix Go.Proofs.YtijmmnlhbbmhlaaW.PrintWords Go.Proofs.YtijmmnlhbbmhlaaW.PrintLast Go.Proofs.YtijmmnlhbbmhlaaW.PrintMore
attribute [local go_sem] max2_int min2_int max_two min_two max_three min_three max_four min_four   -- for this text's walks alone
set_option linter.unusedVariables false
set_option linter.unusedSimpArgs false

/-! ### awardingbodymark_Mod: function 8 -/
def awardingbodymark_Mod.f (a0 : Int) (a1 : Int) : Option (Int) := if a1 = 0 then (none) else (some (Int.tmod (wrap64 ((Int.tmod a0 a1) + a1)) a1))
set_option maxHeartbeats 8000000 in
set_option maxRecDepth 100000 in
theorem awardingbodymark_Mod.calls (a0 : Int) (a1 : Int) (r : Int) (w : World) (h : awardingbodymark_Mod.f a0 a1 = some r) :
    Calls Try.prog 8 #[.int .i64 a0, .int .i64 a1] w fun e w' => e = .returned (.int .i64 r) ∧ Drawn0 w w' := by
  have H : (if a1 = 0 then (none) else (some (Int.tmod (wrap64 ((Int.tmod a0 a1) + a1)) a1))) = some r := h
  clear h
  by_cases c3 : a1 = 0
  · rw [if_pos c3] at H
    exact absurd H (by simp)
  · rw [if_neg c3] at H
    have c3b0 : (a1 == 0) = false := beq_eq_false_iff_ne.mpr c3
    have c3b1 : (a1 != 0) = true := bne_iff_ne.mpr c3
    obtain rfl := Option.some.inj H
    go_enter Try.func8, Try.ntmps8
    go_wp2
    go_ret
    exact ⟨by first | rfl | (simp; done) | (simp [*]; done), by repeat (first | exact Drawn0.refl _ | apply Drawn0.step)⟩

/-! ### signature_in: function 26 -/
def signature_in.f (a0 : Int) (a1 : Int) (a2 : Int) : Option (Bool) := if a0 ≥ a1 then (some (decide (a0 ≤ a2))) else (some false)
set_option maxHeartbeats 8000000 in
set_option maxRecDepth 100000 in
theorem signature_in.calls (a0 : Int) (a1 : Int) (a2 : Int) (r : Bool) (w : World) (h : signature_in.f a0 a1 a2 = some r) :
    Calls Try.prog 26 #[.int .i64 a0, .int .i64 a1, .int .i64 a2] w fun e w' => e = .returned (.bool r) ∧ Drawn0 w w' := by
  have H : (if a0 ≥ a1 then (some (decide (a0 ≤ a2))) else (some false)) = some r := h
  clear h
  by_cases c4 : a0 ≥ a1
  · rw [if_pos c4] at H
    have c4b0 : decide (a1 ≤ a0) = true := decide_eq_true c4
    clear c4
    obtain rfl := Option.some.inj H
    go_enter Try.func26, Try.ntmps26
    go_wp2
    go_ret
    exact ⟨by first | rfl | (simp; done) | (simp [*]; done), by repeat (first | exact Drawn0.refl _ | apply Drawn0.step)⟩
  · rw [if_neg c4] at H
    have c4b0 : decide (a1 ≤ a0) = false := decide_eq_false c4
    clear c4
    obtain rfl := Option.some.inj H
    go_enter Try.func26, Try.ntmps26
    go_wp2
    go_ret
    exact ⟨by first | rfl | (simp; done) | (simp [*]; done), by repeat (first | exact Drawn0.refl _ | apply Drawn0.step)⟩

/-! ### signature_Power: function 15 -/
mutual
def signature_Power.j0 : Nat → Int → Int → Bool → Option (Int)
  | 0, _, _, _ => none
  | k + 1, x0, x1, x12 => if x12 = true then (some 0) else (signature_Power.l0 k x0 x1 1)
def signature_Power.l0 : Nat → Int → Int → Int → Option (Int)
  | 0, _, _, _ => none
  | k + 1, x0, x1, x5 => if x1 > 0 then (if (Go.bits .and .i64 x1 1) = 1 then (signature_Power.l0 k (Int.tmod (wrap64 (x0 * x0)) 2147483579) (x1 / 2) (Int.tmod (wrap64 (x5 * x0)) 2147483579)) else (signature_Power.l0 k (Int.tmod (wrap64 (x0 * x0)) 2147483579) (x1 / 2) x5)) else (some x5)
end
def signature_Power.f (k : Nat) (a0 : Int) (a1 : Int) : Option (Int) := (signature_in.f a0 0 2147483578).bind fun t101 => (if t101 = true then (signature_Power.j0 k a0 a1 (decide (a1 < 0))) else (signature_Power.j0 k a0 a1 true))
theorem signature_Power.mono_l : ∀ k, (∀ y0 y1 y2, LeO (signature_Power.j0 k y0 y1 y2) (signature_Power.j0 (k + 1) y0 y1 y2)) ∧ (∀ y0 y1 y2, LeO (signature_Power.l0 k y0 y1 y2) (signature_Power.l0 (k + 1) y0 y1 y2))
  | 0 => ⟨fun _ _ _ r h => by simp [signature_Power.j0] at h, fun _ _ _ r h => by simp [signature_Power.l0] at h⟩
  | k + 1 => by
    obtain ⟨ih0, ih1⟩ := signature_Power.mono_l k
    refine ⟨?_, ?_⟩
    · intro y0 y1 y2
      unfold signature_Power.j0
      repeat' first
      | (with_reducible exact ih0 _ _ _)
      | (with_reducible exact ih1 _ _ _)
      | (with_reducible exact LeO.refl _)
      | (with_reducible exact LeO.none _)
      | (with_reducible refine LeO.ite ?_ ?_)
      | (with_reducible refine LeO.bind ?_ (fun _ => ?_))
      | exact ih0 _ _ _
      | exact ih1 _ _ _
      | exact LeO.none _
      | refine LeO.ite ?_ ?_
      | refine LeO.bind ?_ (fun _ => ?_)
    · intro y0 y1 y2
      unfold signature_Power.l0
      repeat' first
      | (with_reducible exact ih0 _ _ _)
      | (with_reducible exact ih1 _ _ _)
      | (with_reducible exact LeO.refl _)
      | (with_reducible exact LeO.none _)
      | (with_reducible refine LeO.ite ?_ ?_)
      | (with_reducible refine LeO.bind ?_ (fun _ => ?_))
      | exact ih0 _ _ _
      | exact ih1 _ _ _
      | exact LeO.none _
      | refine LeO.ite ?_ ?_
      | refine LeO.bind ?_ (fun _ => ?_)
theorem signature_Power.mono : ∀ a0 a1 k, LeO (signature_Power.f k a0 a1) (signature_Power.f (k + 1) a0 a1) := by
  intro a0 a1 k
  obtain ⟨ih0, ih1⟩ := signature_Power.mono_l k
  unfold signature_Power.f
  repeat' first
      | (with_reducible exact ih0 _ _ _)
      | (with_reducible exact ih1 _ _ _)
      | (with_reducible exact LeO.refl _)
      | (with_reducible exact LeO.none _)
      | (with_reducible refine LeO.ite ?_ ?_)
      | (with_reducible refine LeO.bind ?_ (fun _ => ?_))
      | exact ih0 _ _ _
      | exact ih1 _ _ _
      | exact LeO.none _
      | refine LeO.ite ?_ ?_
      | refine LeO.bind ?_ (fun _ => ?_)
set_option maxHeartbeats 8000000 in
set_option maxRecDepth 100000 in
theorem signature_Power.calls (k : Nat) (a0 : Int) (a1 : Int) (r : Int) (w : World) (h : signature_Power.f k a0 a1 = some r) :
    Calls Try.prog 15 #[.int .i64 a0, .int .i64 a1] w fun e w' => e = .returned (.int .i64 r) ∧ Drawn0 w w' := by
  have H : ((signature_in.f a0 0 2147483578).bind fun t101 => (if t101 = true then (signature_Power.j0 k a0 a1 (decide (a1 < 0))) else (signature_Power.j0 k a0 a1 true))) = some r := h
  clear h
  have HC3 := Aside0.mk H
  clear H
  go_enter Try.func15, Try.ntmps15
  go_upto_region 1 with (fail)
  go_cut [12] (fun v12 wc => ∃ (kq : Nat) (x12_2 : Bool), v12 = .bool x12_2 ∧ Aside0 (signature_Power.j0 kq a0 a1 x12_2 = some r) ∧ Aside0 (kq ≤ k) ∧ Drawn0 w wc)
  case first =>
    have H := HC3.out
    clear HC3
    replace H := Option.bind_eq_some_iff.mp H
    obtain ⟨t101, A40, H⟩ := H
    replace H : (if t101 = true then (signature_Power.j0 k a0 a1 (decide (a1 < 0))) else (signature_Power.j0 k a0 a1 true)) = some r := H
    have A4 := Aside0.mk A40
    clear A40
    by_cases c5 : t101 = true
    · subst c5
      have H1 : (signature_Power.j0 k a0 a1 (decide (a1 < 0))) = some r := by rw [if_pos rfl] at H; exact H
      clear H
      have H := H1
      clear H1
      have H' := Aside0.mk H
      clear H
      go_wp2_with (first | ((with_reducible refine gate_callee (f := 26) rfl ?_); refine goesL_ (some 7) rfl rfl Try.func26 (by kernel_rfl) rfl #[.int .i64 a0, .int .i64 0, .int .i64 2147483578] rfl (by (try simp only [List.map_toArray, List.map_cons, List.map_nil]); first | done | rfl | (simp only [List.length_drop, List.length_take]; rfl)) ?_; (with_reducible refine (signature_in.calls a0 0 2147483578 true _ A4.out).mono ?_); rintro e w' ⟨rfl, ⟨nd, rfl⟩⟩; refine ⟨_, rfl, ?_⟩))
      go_meet
      case rel => exact ⟨_, (decide (a1 < 0)), (by first | rfl | (simp; done) | (simp [*]; done)), H', ⟨by first | omega | exact Nat.le_refl _⟩, by repeat (first | exact Drawn0.refl _ | apply Drawn0.step)⟩
    · replace c5 := Bool.eq_false_iff.mpr c5
      subst c5
      have H1 : (signature_Power.j0 k a0 a1 true) = some r := by rw [if_neg (show ¬ (false = true) by decide)] at H; exact H
      clear H
      have H := H1
      clear H1
      have H' := Aside0.mk H
      clear H
      go_wp2_with (first | ((with_reducible refine gate_callee (f := 26) rfl ?_); refine goesL_ (some 7) rfl rfl Try.func26 (by kernel_rfl) rfl #[.int .i64 a0, .int .i64 0, .int .i64 2147483578] rfl (by (try simp only [List.map_toArray, List.map_cons, List.map_nil]); first | done | rfl | (simp only [List.length_drop, List.length_take]; rfl)) ?_; (with_reducible refine (signature_in.calls a0 0 2147483578 false _ A4.out).mono ?_); rintro e w' ⟨rfl, ⟨nd, rfl⟩⟩; refine ⟨_, rfl, ?_⟩))
      go_meet
      case rel => exact ⟨_, (true), (by first | rfl | (simp; done) | (simp [*]; done)), H', ⟨by first | omega | exact Nat.le_refl _⟩, by repeat (first | exact Drawn0.refl _ | apply Drawn0.step)⟩
  case rest =>
    clear HC3
    try clear c1
    try clear c2
    try clear p2
    try clear c5
    obtain ⟨kq, x12_2, rfl, HA, HJ2, ⟨mc2, rfl⟩⟩ := hcut
    cases kq with
    | zero => exact absurd HA.out (by simp [signature_Power.j0])
    | succ kj2 =>
      have H := HA.out
      clear HA
      simp only [signature_Power.j0] at H
      by_cases c6 : x12_2 = true
      · subst c6
        have H1 : (some 0) = some r := by rw [if_pos rfl] at H; exact H
        clear H
        have H := H1
        clear H1
        obtain rfl := Option.some.inj H
        go_wp2
        go_ret
        exact ⟨by first | rfl | (simp; done) | (simp [*]; done), by repeat (first | exact Drawn0.refl _ | apply Drawn0.step)⟩
      · replace c6 := Bool.eq_false_iff.mpr c6
        subst c6
        have H1 : (signature_Power.l0 kj2 a0 a1 1) = some r := by rw [if_neg (show ¬ (false = true) by decide)] at H; exact H
        clear H
        have H := H1
        clear H1
        have H' := Aside0.mk H
        clear H
        go_wp2
        go_loopg [0, 1, 5] kj2 (fun kq v0 v1 v5 w' => ∃ (x0_2 : Int) (x1_2 : Int) (x5_2 : Int), v0 = .int .i64 x0_2 ∧ v1 = .int .i64 x1_2 ∧ v5 = .int .i64 x5_2 ∧ Aside0 (signature_Power.l0 kq x0_2 x1_2 x5_2 = some r) ∧ Aside0 (kq ≤ kj2) ∧ Drawn0 w w')
        case atStart => exact ⟨(a0), (a1), (1), (by first | rfl | (simp; done) | (simp [*]; done)), (by first | rfl | (simp; done) | (simp [*]; done)), (by first | rfl | (simp; done) | (simp [*]; done)), H', ⟨Nat.le_refl _⟩, by repeat (first | exact Drawn0.refl _ | apply Drawn0.step)⟩
        case round =>
          clear H'
          try clear c1
          try clear c2
          try clear p2
          try clear c5
          try clear c6
          try clear p2
          obtain ⟨x0_2, x1_2, x5_2, rfl, rfl, rfl, HA, HK2, ⟨m2, rfl⟩⟩ := hrel
          cases gk with
          | zero => exact absurd HA.out (by simp [signature_Power.l0])
          | succ k2 =>
            have H := HA.out
            clear HA
            simp only [signature_Power.l0] at H
            by_cases c7 : x1_2 > 0
            · rw [if_pos c7] at H
              have c7b0 : decide (0 < x1_2) = true := decide_eq_true c7
              clear c7
              by_cases c8 : (Go.bits .and .i64 x1_2 1) = 1
              · rw [if_pos c8] at H
                have c8b0 : ((Go.bits .and .i64 x1_2 1) == 1) = true := beq_iff_eq.mpr c8
                have c8b1 : ((Go.bits .and .i64 x1_2 1) != 1) = false := bne_eq_false_iff_eq.mpr c8
                clear c8
                have H' := Aside0.mk H
                clear H
                go_wp2
                go_roundg k2
                case measure => have := HJ2.out; have := HK2.out; omega
                case rel => exact ⟨(Int.tmod (wrap64 (x0_2 * x0_2)) 2147483579), (x1_2 / 2), (Int.tmod (wrap64 (x5_2 * x0_2)) 2147483579), (by first | rfl | (simp; done) | (simp [*]; done)), (by first | rfl | (simp; done) | (simp [*]; done)), (by first | rfl | (simp; done) | (simp [*]; done)), H', ⟨by have := HJ2.out; have := HK2.out; omega⟩, by repeat (first | exact Drawn0.refl _ | apply Drawn0.step)⟩
              · rw [if_neg c8] at H
                have c8b0 : ((Go.bits .and .i64 x1_2 1) == 1) = false := beq_eq_false_iff_ne.mpr c8
                have c8b1 : ((Go.bits .and .i64 x1_2 1) != 1) = true := bne_iff_ne.mpr c8
                have H' := Aside0.mk H
                clear H
                go_wp2
                go_roundg k2
                case measure => have := HJ2.out; have := HK2.out; omega
                case rel => exact ⟨(Int.tmod (wrap64 (x0_2 * x0_2)) 2147483579), (x1_2 / 2), (x5_2), (by first | rfl | (simp; done) | (simp [*]; done)), (by first | rfl | (simp; done) | (simp [*]; done)), (by first | rfl | (simp; done) | (simp [*]; done)), H', ⟨by have := HJ2.out; have := HK2.out; omega⟩, by repeat (first | exact Drawn0.refl _ | apply Drawn0.step)⟩
            · rw [if_neg c7] at H
              have c7b0 : decide (0 < x1_2) = false := decide_eq_false c7
              clear c7
              obtain rfl := Option.some.inj H
              go_wp2
              go_ret
              exact ⟨by first | rfl | (simp; done) | (simp [*]; done), by repeat (first | exact Drawn0.refl _ | apply Drawn0.step)⟩

/-! ### signature_Valid: function 13 -/
def signature_Valid.f (a0 : Int) : Option (Bool) := (signature_in.f a0 1 1073741788).bind fun t102 => (some t102)
set_option maxHeartbeats 8000000 in
set_option maxRecDepth 100000 in
theorem signature_Valid.calls (a0 : Int) (r : Bool) (w : World) (h : signature_Valid.f a0 = some r) :
    Calls Try.prog 13 #[.int .i64 a0] w fun e w' => e = .returned (.bool r) ∧ Drawn0 w w' := by
  have H : ((signature_in.f a0 1 1073741788).bind fun t102 => (some t102)) = some r := h
  clear h
  replace H := Option.bind_eq_some_iff.mp H
  obtain ⟨t102, A20, H⟩ := H
  replace H : (some t102) = some r := H
  have A2 := Aside0.mk A20
  clear A20
  obtain rfl := Option.some.inj H
  go_enter Try.func13, Try.ntmps13
  go_wp2_with (first | ((with_reducible refine gate_callee (f := 26) rfl ?_); refine goesL_ (some 4) rfl rfl Try.func26 (by kernel_rfl) rfl #[.int .i64 a0, .int .i64 1, .int .i64 1073741788] rfl (by (try simp only [List.map_toArray, List.map_cons, List.map_nil]); first | done | rfl | (simp only [List.length_drop, List.length_take]; rfl)) ?_; (with_reducible refine (signature_in.calls a0 1 1073741788 t102 _ A2.out).mono ?_); rintro e w' ⟨rfl, ⟨nd, rfl⟩⟩; refine ⟨_, rfl, ?_⟩))
  go_ret
  exact ⟨by first | rfl | (simp; done) | (simp [*]; done), by repeat (first | exact Drawn0.refl _ | apply Drawn0.step)⟩

/-! ### signature_Public: function 9 -/
def signature_Public.f (k : Nat) (a0 : Int) : Option (Int × Int) := (signature_Valid.f a0).bind fun t103 => (if t103 = true then ((signature_Power.f k 4 a0).bind fun t104 => (some (t104, 0))) else (some (0, 2)))
theorem signature_Public.mono : ∀ a0 k, LeO (signature_Public.f k a0) (signature_Public.f (k + 1) a0) := by
  intro a0 k
  unfold signature_Public.f
  repeat' first
      | (with_reducible exact signature_Power.mono _ _ _)
      | (with_reducible exact LeO.refl _)
      | (with_reducible exact LeO.none _)
      | (with_reducible refine LeO.ite ?_ ?_)
      | (with_reducible refine LeO.bind ?_ (fun _ => ?_))
      | exact signature_Power.mono _ _ _
      | exact LeO.none _
      | refine LeO.ite ?_ ?_
      | refine LeO.bind ?_ (fun _ => ?_)
set_option maxHeartbeats 8000000 in
set_option maxRecDepth 100000 in
theorem signature_Public.calls (k : Nat) (a0 : Int) (r1 : Int) (r2 : Int) (w : World) (h : signature_Public.f k a0 = some (r1, r2)) :
    Calls Try.prog 9 #[.int .i64 a0] w fun e w' => e = .returned (.tuple #[.int .i64 r1, .int .i64 r2]) ∧ Drawn0 w w' := by
  have H : ((signature_Valid.f a0).bind fun t103 => (if t103 = true then ((signature_Power.f k 4 a0).bind fun t104 => (some (t104, 0))) else (some (0, 2)))) = some (r1, r2) := h
  clear h
  replace H := Option.bind_eq_some_iff.mp H
  obtain ⟨t103, A20, H⟩ := H
  replace H : (if t103 = true then ((signature_Power.f k 4 a0).bind fun t104 => (some (t104, 0))) else (some (0, 2))) = some (r1, r2) := H
  have A2 := Aside0.mk A20
  clear A20
  by_cases c3 : t103 = true
  · subst c3
    have H1 : ((signature_Power.f k 4 a0).bind fun t104 => (some (t104, 0))) = some (r1, r2) := by rw [if_pos rfl] at H; exact H
    clear H
    have H := H1
    clear H1
    replace H := Option.bind_eq_some_iff.mp H
    obtain ⟨t104, A40, H⟩ := H
    replace H : (some (t104, 0)) = some (r1, r2) := H
    have A4 := Aside0.mk A40
    clear A40
    simp only [Option.some.injEq, Prod.mk.injEq] at H
    obtain ⟨rfl, rfl⟩ := H
    go_enter Try.func9, Try.ntmps9
    go_wp2_with (first | ((with_reducible refine gate_callee (f := 13) rfl ?_); refine goesL_ (some 5) rfl rfl Try.func13 (by kernel_rfl) rfl #[.int .i64 a0] rfl (by (try simp only [List.map_toArray, List.map_cons, List.map_nil]); first | done | rfl | (simp only [List.length_drop, List.length_take]; rfl)) ?_; (with_reducible refine (signature_Valid.calls a0 true _ A2.out).mono ?_); rintro e w' ⟨rfl, ⟨nd, rfl⟩⟩; refine ⟨_, rfl, ?_⟩) | ((with_reducible refine gate_callee (f := 15) rfl ?_); refine goesL_ (some 8) rfl rfl Try.func15 (by kernel_rfl) rfl #[.int .i64 4, .int .i64 a0] rfl (by (try simp only [List.map_toArray, List.map_cons, List.map_nil]); first | done | rfl | (simp only [List.length_drop, List.length_take]; rfl)) ?_; (with_reducible refine (signature_Power.calls k 4 a0 t104 _ A4.out).mono ?_); rintro e w' ⟨rfl, ⟨nd, rfl⟩⟩; refine ⟨_, rfl, ?_⟩))
    go_ret2
    exact ⟨by first | rfl | (simp; done) | (simp [*]; done), by repeat (first | exact Drawn0.refl _ | apply Drawn0.step)⟩
  · replace c3 := Bool.eq_false_iff.mpr c3
    subst c3
    have H1 : (some (0, 2)) = some (r1, r2) := by rw [if_neg (show ¬ (false = true) by decide)] at H; exact H
    clear H
    have H := H1
    clear H1
    simp only [Option.some.injEq, Prod.mk.injEq] at H
    obtain ⟨rfl, rfl⟩ := H
    go_enter Try.func9, Try.ntmps9
    go_wp2_with (first | ((with_reducible refine gate_callee (f := 13) rfl ?_); refine goesL_ (some 5) rfl rfl Try.func13 (by kernel_rfl) rfl #[.int .i64 a0] rfl (by (try simp only [List.map_toArray, List.map_cons, List.map_nil]); first | done | rfl | (simp only [List.length_drop, List.length_take]; rfl)) ?_; (with_reducible refine (signature_Valid.calls a0 false _ A2.out).mono ?_); rintro e w' ⟨rfl, ⟨nd, rfl⟩⟩; refine ⟨_, rfl, ?_⟩))
    go_ret2
    exact ⟨by first | rfl | (simp; done) | (simp [*]; done), by repeat (first | exact Drawn0.refl _ | apply Drawn0.step)⟩

/-! ### bits_RotateLeft32: function 35 -/
def bits_RotateLeft32.f (a0 : Int) (a1 : Int) : Option (Int) := if 0 ≤ (Go.bits .and .u64 (IntKind.u64.wrap (a1)) 31) then (if 0 ≤ (IntKind.u64.wrap (32 - (Go.bits .and .u64 (IntKind.u64.wrap (a1)) 31))) then (some (Go.bits .or .u32 (shl .u32 a0 (Go.bits .and .u64 (IntKind.u64.wrap (a1)) 31)) (shr .u32 a0 (IntKind.u64.wrap (32 - (Go.bits .and .u64 (IntKind.u64.wrap (a1)) 31)))))) else (none)) else (none)
set_option maxHeartbeats 8000000 in
set_option maxRecDepth 100000 in
theorem bits_RotateLeft32.calls (a0 : Int) (a1 : Int) (r : Int) (w : World) (h : bits_RotateLeft32.f a0 a1 = some r) :
    Calls Try.prog 35 #[.int .u32 a0, .int .i64 a1] w fun e w' => e = .returned (.int .u32 r) ∧ Drawn0 w w' := by
  have H : (if 0 ≤ (Go.bits .and .u64 (IntKind.u64.wrap (a1)) 31) then (if 0 ≤ (IntKind.u64.wrap (32 - (Go.bits .and .u64 (IntKind.u64.wrap (a1)) 31))) then (some (Go.bits .or .u32 (shl .u32 a0 (Go.bits .and .u64 (IntKind.u64.wrap (a1)) 31)) (shr .u32 a0 (IntKind.u64.wrap (32 - (Go.bits .and .u64 (IntKind.u64.wrap (a1)) 31)))))) else (none)) else (none)) = some r := h
  clear h
  obtain ⟨ji3, hji3⟩ : ∃ j_ : Int, (Go.bits .and .u64 (IntKind.u64.wrap (a1)) 31) = j_ := ⟨_, rfl⟩
  replace H : (if 0 ≤ (ji3) then (if 0 ≤ (IntKind.u64.wrap (32 - (ji3))) then (some (Go.bits .or .u32 (shl .u32 a0 (ji3)) (shr .u32 a0 (IntKind.u64.wrap (32 - (ji3)))))) else (none)) else (none)) = some r := by first | (rw [hji3] at H; exact H) | (simp only [hji3] at H ⊢; exact H)
  by_cases c4 : 0 ≤ (ji3)
  · rw [if_pos c4] at H
    have c4b0 := eq_true c4
    have c4b1 : decide (0 ≤ (ji3)) = true := decide_eq_true c4
    clear c4
    obtain ⟨ji5, hji5⟩ : ∃ j_ : Int, (shl .u32 a0 (ji3)) = j_ := ⟨_, rfl⟩
    replace H : (if 0 ≤ (IntKind.u64.wrap (32 - (ji3))) then (some (Go.bits .or .u32 (ji5) (shr .u32 a0 (IntKind.u64.wrap (32 - (ji3)))))) else (none)) = some r := by first | (rw [hji5] at H; exact H) | (simp only [hji5] at H ⊢; exact H)
    have hji5_ : (IntKind.u32.wrap (a0 * 2 ^ min (ji3).toNat 32)) = ji5 := hji5
    have hji5z : (ji3) ≤ 32 → (IntKind.u32.wrap (a0 * 2 ^ (ji3).toNat)) = ji5 := shl_small hji5
    obtain ⟨ji6, hji6⟩ : ∃ j_ : Int, (IntKind.u64.wrap (32 - (ji3))) = j_ := ⟨_, rfl⟩
    replace H : (if 0 ≤ (ji6) then (some (Go.bits .or .u32 (ji5) (shr .u32 a0 (ji6)))) else (none)) = some r := by first | (rw [hji6] at H; exact H) | (simp only [hji6] at H ⊢; exact H)
    by_cases c7 : 0 ≤ (ji6)
    · rw [if_pos c7] at H
      have c7b0 := eq_true c7
      have c7b1 : decide (0 ≤ (ji6)) = true := decide_eq_true c7
      clear c7
      obtain ⟨ji8, hji8⟩ : ∃ j_ : Int, (shr .u32 a0 (ji6)) = j_ := ⟨_, rfl⟩
      replace H : (some (Go.bits .or .u32 (ji5) (ji8))) = some r := by first | (rw [hji8] at H; exact H) | (simp only [hji8] at H ⊢; exact H)
      have hji8_ : (a0 / 2 ^ min (ji6).toNat 32) = ji8 := hji8
      have hji8z : (ji6) ≤ 32 → (a0 / 2 ^ (ji6).toNat) = ji8 := shr_small hji8
      obtain rfl := Option.some.inj H
      go_enter Try.func35, Try.ntmps35
      go_wp2
      go_ret
      exact ⟨by first | rfl | (simp; done) | (simp only [← hji3, ← hji5, ← hji6, ← hji8] <;> (first | rfl | simp)) | (simp [*]; done), by repeat (first | exact Drawn0.refl _ | apply Drawn0.step)⟩
    · rw [if_neg c7] at H
      exact absurd H (by simp)
  · rw [if_neg c4] at H
    exact absurd H (by simp)

/-! ### digest_Permute: function 33 -/
def digest_Permute.l0 : Nat → Int → Int → Int → Int → Int → Option (Int × Int × Int × Int)
  | 0, _, _, _, _, _ => none
  | k + 1, x3, x4, x5, x6, x15 => if x15 < 12 then ((bits_RotateLeft32.f x4 5).bind fun t108 => ((bits_RotateLeft32.f ((x3 + x4) % 4294967296) 16).bind fun t109 => ((bits_RotateLeft32.f x6 8).bind fun t110 => ((bits_RotateLeft32.f (Go.bits .xor .u32 t110 ((x5 + x6) % 4294967296)) 13).bind fun t111 => ((bits_RotateLeft32.f (Go.bits .xor .u32 t108 ((x3 + x4) % 4294967296)) 7).bind fun t112 => ((bits_RotateLeft32.f (((x5 + x6) + (Go.bits .xor .u32 t108 ((x3 + x4) % 4294967296))) % 4294967296) 16).bind fun t113 => (digest_Permute.l0 k ((t109 + (Go.bits .xor .u32 t110 ((x5 + x6) % 4294967296))) % 4294967296) (Go.bits .xor .u32 t112 (((x5 + x6) + (Go.bits .xor .u32 t108 ((x3 + x4) % 4294967296))) % 4294967296)) t113 (Go.bits .xor .u32 t111 ((t109 + (Go.bits .xor .u32 t110 ((x5 + x6) % 4294967296))) % 4294967296)) (wrap64 (x15 + 1))))))))) else (some (x3, x4, x5, x6))
def digest_Permute.f (k : Nat) (a0_0 : Int) (a0_1 : Int) (a0_2 : Int) (a0_3 : Int) : Option (Int × Int × Int × Int) := digest_Permute.l0 k a0_0 a0_1 a0_2 a0_3 0
theorem digest_Permute.mono_l : ∀ k, (∀ y0 y1 y2 y3 y4, LeO (digest_Permute.l0 k y0 y1 y2 y3 y4) (digest_Permute.l0 (k + 1) y0 y1 y2 y3 y4))
  | 0 => fun _ _ _ _ _ r h => by simp [digest_Permute.l0] at h
  | k + 1 => by
    have ih0 := digest_Permute.mono_l k
    · intro y0 y1 y2 y3 y4
      unfold digest_Permute.l0
      repeat' first
      | (with_reducible exact ih0 _ _ _ _ _)
      | (with_reducible exact LeO.refl _)
      | (with_reducible exact LeO.none _)
      | (with_reducible refine LeO.ite ?_ ?_)
      | (with_reducible refine LeO.bind ?_ (fun _ => ?_))
      | exact ih0 _ _ _ _ _
      | exact LeO.none _
      | refine LeO.ite ?_ ?_
      | refine LeO.bind ?_ (fun _ => ?_)
theorem digest_Permute.mono : ∀ a0 a1 a2 a3 k, LeO (digest_Permute.f k a0 a1 a2 a3) (digest_Permute.f (k + 1) a0 a1 a2 a3) := by
  intro a0 a1 a2 a3 k
  have ih0 := digest_Permute.mono_l k
  unfold digest_Permute.f
  repeat' first
      | (with_reducible exact ih0 _ _ _ _ _)
      | (with_reducible exact LeO.refl _)
      | (with_reducible exact LeO.none _)
      | (with_reducible refine LeO.ite ?_ ?_)
      | (with_reducible refine LeO.bind ?_ (fun _ => ?_))
      | exact ih0 _ _ _ _ _
      | exact LeO.none _
      | refine LeO.ite ?_ ?_
      | refine LeO.bind ?_ (fun _ => ?_)
set_option maxHeartbeats 8000000 in
set_option maxRecDepth 100000 in
theorem digest_Permute.calls (k : Nat) (a0_0 : Int) (a0_1 : Int) (a0_2 : Int) (a0_3 : Int) (r1 : Int) (r2 : Int) (r3 : Int) (r4 : Int) (w : World) (h : digest_Permute.f k a0_0 a0_1 a0_2 a0_3 = some (r1, r2, r3, r4)) :
    Calls Try.prog 33 #[.agg #[.int .u32 a0_0, .int .u32 a0_1, .int .u32 a0_2, .int .u32 a0_3]] w fun e w' => e = .returned (.agg #[.int .u32 r1, .int .u32 r2, .int .u32 r3, .int .u32 r4]) ∧ Below w.heap.size w w' := by
  have hu23 := Try.underlying23
  have HB := Aside0.mk (Below.refl w.heap.size w)
  have H : (digest_Permute.l0 k a0_0 a0_1 a0_2 a0_3 0) = some (r1, r2, r3, r4) := h
  clear h
  have H' := Aside0.mk H
  clear H
  go_enter Try.func33, Try.ntmps33
  go_wp2_with (first | ((with_reducible refine gate_dst (N := 1) rfl ?_); refine box_event ?hg (N := 1) ?hd (cs := #[.int .u32 a0_0, .int .u32 a0_1, .int .u32 a0_2, .int .u32 a0_3]) (t := 23) ?hr ?_; (case hd => rfl); (case hg => rfl); (case hr => first | (go_simp; done) | (go_simp; rfl)); intro gb105 hg w2 hbox hb; have n0_ := Aside0.mk (below_step (by repeat (first | (with_reducible first | exact HB.out | apply below_alloc | apply pw_below_drewN | apply below_drew1) | exact HB.out)) hb); have n1_ := Aside0.mk (hbox); have n2_ := Aside0.mk ((by rw [hg]; exact (below_size (by repeat (first | (with_reducible first | exact HB.out | apply below_alloc | apply pw_below_drewN | apply below_drew1) | exact HB.out))) : w.heap.size ≤ gb105)); have n3_ := Aside0.mk ((by rw [hg]; exact (below_size (by repeat (first | (with_reducible first | exact HB.out | apply below_alloc | apply pw_below_drewN | apply below_drew1) | exact HB.out))) : w.heap.size ≤ gb105)); clear HB; have HB := n0_; have BK105 := n1_; have GW105 := n2_; have GE105 := n3_; clear n0_ n1_ n2_ n3_; clear hb hbox hg) | ((with_reducible refine gate_dst (N := 2) rfl ?_); refine box_event ?hg (N := 2) ?hd (cs := #[.int .u32 0, .int .u32 0, .int .u32 0, .int .u32 0]) (t := 23) ?hr ?_; (case hd => rfl); (case hg => rfl); (case hr => first | (go_simp; done) | (go_simp; rfl)); intro gb106 hg w3 hbox hb; have n0_ := Aside0.mk (blk_below (g := gb105) (o := .cells #[.int .u32 a0_0, .int .u32 a0_1, .int .u32 a0_2, .int .u32 a0_3] 23 (0, 0)) (by (with_reducible repeat (first | refine blk_drewN ?_ _ | refine blk_drew ?_ | refine blk_alloc ?_ _)); exact BK105.out) hb); have n1_ := Aside0.mk (below_step (by repeat (first | (with_reducible first | exact HB.out | apply below_alloc | apply pw_below_drewN | apply below_drew1 | refine below_set ?_ GE105.out) | exact HB.out)) hb); have n2_ := Aside0.mk (hbox); have n3_ := Aside0.mk ((by rw [hg]; exact (below_size (by repeat (first | (with_reducible first | exact HB.out | apply below_alloc | apply pw_below_drewN | apply below_drew1 | refine below_set ?_ GE105.out) | exact HB.out))) : w.heap.size ≤ gb106)); have n4_ := Aside0.mk ((by rw [hg]; exact (below_size (by repeat (first | (with_reducible first | exact HB.out | apply below_alloc | apply pw_below_drewN | apply below_drew1 | refine below_set ?_ GE105.out) | exact HB.out))) : w.heap.size ≤ gb106)); have n5_ := Aside0.mk ((by rw [hg]; exact Nat.ne_of_lt (blk_lt (g := gb105) (o := .cells #[.int .u32 a0_0, .int .u32 a0_1, .int .u32 a0_2, .int .u32 a0_3] 23 (0, 0)) (by (with_reducible repeat (first | refine blk_drewN ?_ _ | refine blk_drew ?_ | refine blk_alloc ?_ _)); exact BK105.out)) : gb105 ≠ gb106)); have n6_ := Aside0.mk ((by rw [hg]; exact Nat.ne_of_gt (blk_lt (g := gb105) (o := .cells #[.int .u32 a0_0, .int .u32 a0_1, .int .u32 a0_2, .int .u32 a0_3] 23 (0, 0)) (by (with_reducible repeat (first | refine blk_drewN ?_ _ | refine blk_drew ?_ | refine blk_alloc ?_ _)); exact BK105.out)) : gb106 ≠ gb105)); clear BK105; clear HB; have BK105 := n0_; have HB := n1_; have BK106 := n2_; have GW106 := n3_; have GE106 := n4_; have NB105_106 := n5_; have NB106_105 := n6_; clear n0_ n1_ n2_ n3_ n4_ n5_ n6_; clear hb hbox hg; have hnb4 := NB105_106.out; have hnc4 := NB106_105.out; have hcz5_0 : w3.cell? ⟨gb105, 0, none⟩ = some (.int .u32 a0_0) := (blk_cell BK105.out 0).trans rfl; have hcz5_1 : w3.cell? ⟨gb105, 1, none⟩ = some (.int .u32 a0_1) := (blk_cell BK105.out 1).trans rfl; have hcz5_2 : w3.cell? ⟨gb105, 2, none⟩ = some (.int .u32 a0_2) := (blk_cell BK105.out 2).trans rfl; have hcz5_3 : w3.cell? ⟨gb105, 3, none⟩ = some (.int .u32 a0_3) := (blk_cell BK105.out 3).trans rfl; have hfz5_0 := blk_frozen BK105.out 0; have hfz5_1 := blk_frozen BK105.out 1; have hfz5_2 := blk_frozen BK105.out 2; have hfz5_3 := blk_frozen BK105.out 3))
  repeat (go_quiet (first | ((with_reducible refine gate_dst (N := 1) rfl ?_); refine box_event ?hg (N := 1) ?hd (cs := #[.int .u32 a0_0, .int .u32 a0_1, .int .u32 a0_2, .int .u32 a0_3]) (t := 23) ?hr ?_; (case hd => rfl); (case hg => rfl); (case hr => first | (go_simp; done) | (go_simp; rfl)); intro gb105 hg w2 hbox hb; have n0_ := Aside0.mk (below_step (by repeat (first | (with_reducible first | exact HB.out | apply below_alloc | apply pw_below_drewN | apply below_drew1) | exact HB.out)) hb); have n1_ := Aside0.mk (hbox); have n2_ := Aside0.mk ((by rw [hg]; exact (below_size (by repeat (first | (with_reducible first | exact HB.out | apply below_alloc | apply pw_below_drewN | apply below_drew1) | exact HB.out))) : w.heap.size ≤ gb105)); have n3_ := Aside0.mk ((by rw [hg]; exact (below_size (by repeat (first | (with_reducible first | exact HB.out | apply below_alloc | apply pw_below_drewN | apply below_drew1) | exact HB.out))) : w.heap.size ≤ gb105)); clear HB; have HB := n0_; have BK105 := n1_; have GW105 := n2_; have GE105 := n3_; clear n0_ n1_ n2_ n3_; clear hb hbox hg) | ((with_reducible refine gate_dst (N := 2) rfl ?_); refine box_event ?hg (N := 2) ?hd (cs := #[.int .u32 0, .int .u32 0, .int .u32 0, .int .u32 0]) (t := 23) ?hr ?_; (case hd => rfl); (case hg => rfl); (case hr => first | (go_simp; done) | (go_simp; rfl)); intro gb106 hg w3 hbox hb; have n0_ := Aside0.mk (blk_below (g := gb105) (o := .cells #[.int .u32 a0_0, .int .u32 a0_1, .int .u32 a0_2, .int .u32 a0_3] 23 (0, 0)) (by (with_reducible repeat (first | refine blk_drewN ?_ _ | refine blk_drew ?_ | refine blk_alloc ?_ _)); exact BK105.out) hb); have n1_ := Aside0.mk (below_step (by repeat (first | (with_reducible first | exact HB.out | apply below_alloc | apply pw_below_drewN | apply below_drew1 | refine below_set ?_ GE105.out) | exact HB.out)) hb); have n2_ := Aside0.mk (hbox); have n3_ := Aside0.mk ((by rw [hg]; exact (below_size (by repeat (first | (with_reducible first | exact HB.out | apply below_alloc | apply pw_below_drewN | apply below_drew1 | refine below_set ?_ GE105.out) | exact HB.out))) : w.heap.size ≤ gb106)); have n4_ := Aside0.mk ((by rw [hg]; exact (below_size (by repeat (first | (with_reducible first | exact HB.out | apply below_alloc | apply pw_below_drewN | apply below_drew1 | refine below_set ?_ GE105.out) | exact HB.out))) : w.heap.size ≤ gb106)); have n5_ := Aside0.mk ((by rw [hg]; exact Nat.ne_of_lt (blk_lt (g := gb105) (o := .cells #[.int .u32 a0_0, .int .u32 a0_1, .int .u32 a0_2, .int .u32 a0_3] 23 (0, 0)) (by (with_reducible repeat (first | refine blk_drewN ?_ _ | refine blk_drew ?_ | refine blk_alloc ?_ _)); exact BK105.out)) : gb105 ≠ gb106)); have n6_ := Aside0.mk ((by rw [hg]; exact Nat.ne_of_gt (blk_lt (g := gb105) (o := .cells #[.int .u32 a0_0, .int .u32 a0_1, .int .u32 a0_2, .int .u32 a0_3] 23 (0, 0)) (by (with_reducible repeat (first | refine blk_drewN ?_ _ | refine blk_drew ?_ | refine blk_alloc ?_ _)); exact BK105.out)) : gb106 ≠ gb105)); clear BK105; clear HB; have BK105 := n0_; have HB := n1_; have BK106 := n2_; have GW106 := n3_; have GE106 := n4_; have NB105_106 := n5_; have NB106_105 := n6_; clear n0_ n1_ n2_ n3_ n4_ n5_ n6_; clear hb hbox hg; have hnb4 := NB105_106.out; have hnc4 := NB106_105.out; have hcz5_0 : w3.cell? ⟨gb105, 0, none⟩ = some (.int .u32 a0_0) := (blk_cell BK105.out 0).trans rfl; have hcz5_1 : w3.cell? ⟨gb105, 1, none⟩ = some (.int .u32 a0_1) := (blk_cell BK105.out 1).trans rfl; have hcz5_2 : w3.cell? ⟨gb105, 2, none⟩ = some (.int .u32 a0_2) := (blk_cell BK105.out 2).trans rfl; have hcz5_3 : w3.cell? ⟨gb105, 3, none⟩ = some (.int .u32 a0_3) := (blk_cell BK105.out 3).trans rfl; have hfz5_0 := blk_frozen BK105.out 0; have hfz5_1 := blk_frozen BK105.out 1; have hfz5_2 := blk_frozen BK105.out 2; have hfz5_3 := blk_frozen BK105.out 3)); try go_wp2_with (first | ((with_reducible refine gate_dst (N := 1) rfl ?_); refine box_event ?hg (N := 1) ?hd (cs := #[.int .u32 a0_0, .int .u32 a0_1, .int .u32 a0_2, .int .u32 a0_3]) (t := 23) ?hr ?_; (case hd => rfl); (case hg => rfl); (case hr => first | (go_simp; done) | (go_simp; rfl)); intro gb105 hg w2 hbox hb; have n0_ := Aside0.mk (below_step (by repeat (first | (with_reducible first | exact HB.out | apply below_alloc | apply pw_below_drewN | apply below_drew1) | exact HB.out)) hb); have n1_ := Aside0.mk (hbox); have n2_ := Aside0.mk ((by rw [hg]; exact (below_size (by repeat (first | (with_reducible first | exact HB.out | apply below_alloc | apply pw_below_drewN | apply below_drew1) | exact HB.out))) : w.heap.size ≤ gb105)); have n3_ := Aside0.mk ((by rw [hg]; exact (below_size (by repeat (first | (with_reducible first | exact HB.out | apply below_alloc | apply pw_below_drewN | apply below_drew1) | exact HB.out))) : w.heap.size ≤ gb105)); clear HB; have HB := n0_; have BK105 := n1_; have GW105 := n2_; have GE105 := n3_; clear n0_ n1_ n2_ n3_; clear hb hbox hg) | ((with_reducible refine gate_dst (N := 2) rfl ?_); refine box_event ?hg (N := 2) ?hd (cs := #[.int .u32 0, .int .u32 0, .int .u32 0, .int .u32 0]) (t := 23) ?hr ?_; (case hd => rfl); (case hg => rfl); (case hr => first | (go_simp; done) | (go_simp; rfl)); intro gb106 hg w3 hbox hb; have n0_ := Aside0.mk (blk_below (g := gb105) (o := .cells #[.int .u32 a0_0, .int .u32 a0_1, .int .u32 a0_2, .int .u32 a0_3] 23 (0, 0)) (by (with_reducible repeat (first | refine blk_drewN ?_ _ | refine blk_drew ?_ | refine blk_alloc ?_ _)); exact BK105.out) hb); have n1_ := Aside0.mk (below_step (by repeat (first | (with_reducible first | exact HB.out | apply below_alloc | apply pw_below_drewN | apply below_drew1 | refine below_set ?_ GE105.out) | exact HB.out)) hb); have n2_ := Aside0.mk (hbox); have n3_ := Aside0.mk ((by rw [hg]; exact (below_size (by repeat (first | (with_reducible first | exact HB.out | apply below_alloc | apply pw_below_drewN | apply below_drew1 | refine below_set ?_ GE105.out) | exact HB.out))) : w.heap.size ≤ gb106)); have n4_ := Aside0.mk ((by rw [hg]; exact (below_size (by repeat (first | (with_reducible first | exact HB.out | apply below_alloc | apply pw_below_drewN | apply below_drew1 | refine below_set ?_ GE105.out) | exact HB.out))) : w.heap.size ≤ gb106)); have n5_ := Aside0.mk ((by rw [hg]; exact Nat.ne_of_lt (blk_lt (g := gb105) (o := .cells #[.int .u32 a0_0, .int .u32 a0_1, .int .u32 a0_2, .int .u32 a0_3] 23 (0, 0)) (by (with_reducible repeat (first | refine blk_drewN ?_ _ | refine blk_drew ?_ | refine blk_alloc ?_ _)); exact BK105.out)) : gb105 ≠ gb106)); have n6_ := Aside0.mk ((by rw [hg]; exact Nat.ne_of_gt (blk_lt (g := gb105) (o := .cells #[.int .u32 a0_0, .int .u32 a0_1, .int .u32 a0_2, .int .u32 a0_3] 23 (0, 0)) (by (with_reducible repeat (first | refine blk_drewN ?_ _ | refine blk_drew ?_ | refine blk_alloc ?_ _)); exact BK105.out)) : gb106 ≠ gb105)); clear BK105; clear HB; have BK105 := n0_; have HB := n1_; have BK106 := n2_; have GW106 := n3_; have GE106 := n4_; have NB105_106 := n5_; have NB106_105 := n6_; clear n0_ n1_ n2_ n3_ n4_ n5_ n6_; clear hb hbox hg; have hnb4 := NB105_106.out; have hnc4 := NB106_105.out; have hcz5_0 : w3.cell? ⟨gb105, 0, none⟩ = some (.int .u32 a0_0) := (blk_cell BK105.out 0).trans rfl; have hcz5_1 : w3.cell? ⟨gb105, 1, none⟩ = some (.int .u32 a0_1) := (blk_cell BK105.out 1).trans rfl; have hcz5_2 : w3.cell? ⟨gb105, 2, none⟩ = some (.int .u32 a0_2) := (blk_cell BK105.out 2).trans rfl; have hcz5_3 : w3.cell? ⟨gb105, 3, none⟩ = some (.int .u32 a0_3) := (blk_cell BK105.out 3).trans rfl; have hfz5_0 := blk_frozen BK105.out 0; have hfz5_1 := blk_frozen BK105.out 1; have hfz5_2 := blk_frozen BK105.out 2; have hfz5_3 := blk_frozen BK105.out 3)))
  go_loopg [3, 4, 5, 6, 15] k (fun kq v3 v4 v5 v6 v15 w' => ∃ (x3_1 : Int) (x4_1 : Int) (x5_1 : Int) (x6_1 : Int) (x15_1 : Int), v3 = .int .u32 x3_1 ∧ v4 = .int .u32 x4_1 ∧ v5 = .int .u32 x5_1 ∧ v6 = .int .u32 x6_1 ∧ v15 = .int .i64 x15_1 ∧ Aside0 (digest_Permute.l0 kq x3_1 x4_1 x5_1 x6_1 x15_1 = some (r1, r2, r3, r4)) ∧ Aside0 (kq ≤ k) ∧ Aside0 (w'.heap[gb105]? = some (.cells #[.int .u32 a0_0, .int .u32 a0_1, .int .u32 a0_2, .int .u32 a0_3] 23 (0, 0))) ∧ Aside0 (w'.heap[gb106]? = some (.cells #[.int .u32 0, .int .u32 0, .int .u32 0, .int .u32 0] 23 (0, 0))) ∧ Aside0 (Below w.heap.size w w'))
  case atStart => exact ⟨(a0_0), (a0_1), (a0_2), (a0_3), (0), (by first | rfl | (simp; done) | (simp [*]; done)), (by first | rfl | (simp; done) | (simp [*]; done)), (by first | rfl | (simp; done) | (simp [*]; done)), (by first | rfl | (simp; done) | (simp [*]; done)), (by first | rfl | (simp; done) | (simp [*]; done)), H', ⟨Nat.le_refl _⟩, ⟨by (with_reducible repeat (first | refine blk_drewN ?_ _ | refine blk_drew ?_ | refine blk_alloc ?_ _)); exact BK105.out⟩, ⟨by (with_reducible repeat (first | refine blk_drewN ?_ _ | refine blk_drew ?_ | refine blk_alloc ?_ _)); exact BK106.out⟩, ⟨by repeat (first | (with_reducible first | exact HB.out | apply below_alloc | apply pw_below_drewN | apply below_drew1 | refine below_set ?_ GE105.out | refine below_set ?_ GE106.out) | exact HB.out)⟩⟩
  case round =>
    clear H'
    try clear p2
    try clear c3
    try clear c4
    try clear hcz5_0
    try clear hcz5_1
    try clear hcz5_2
    try clear hcz5_3
    try clear hfz5_0
    try clear hfz5_1
    try clear hfz5_2
    try clear hfz5_3
    obtain ⟨x3_1, x4_1, x5_1, x6_1, x15_1, rfl, rfl, rfl, rfl, rfl, HA, HK1, BK105, BK106, HB⟩ := hrel
    cases gk with
    | zero => exact absurd HA.out (by simp [digest_Permute.l0])
    | succ k1 =>
      have H := HA.out
      clear HA
      simp only [digest_Permute.l0] at H
      by_cases c6 : x15_1 < 12
      · rw [if_pos c6] at H
        have c6b0 : decide (x15_1 < 12) = true := decide_eq_true c6
        clear c6
        replace H := Option.bind_eq_some_iff.mp H
        obtain ⟨t108, A70, H⟩ := H
        replace H : ((bits_RotateLeft32.f ((x3_1 + x4_1) % 4294967296) 16).bind fun t109 => ((bits_RotateLeft32.f x6_1 8).bind fun t110 => ((bits_RotateLeft32.f (Go.bits .xor .u32 t110 ((x5_1 + x6_1) % 4294967296)) 13).bind fun t111 => ((bits_RotateLeft32.f (Go.bits .xor .u32 t108 ((x3_1 + x4_1) % 4294967296)) 7).bind fun t112 => ((bits_RotateLeft32.f (((x5_1 + x6_1) + (Go.bits .xor .u32 t108 ((x3_1 + x4_1) % 4294967296))) % 4294967296) 16).bind fun t113 => (digest_Permute.l0 k1 ((t109 + (Go.bits .xor .u32 t110 ((x5_1 + x6_1) % 4294967296))) % 4294967296) (Go.bits .xor .u32 t112 (((x5_1 + x6_1) + (Go.bits .xor .u32 t108 ((x3_1 + x4_1) % 4294967296))) % 4294967296)) t113 (Go.bits .xor .u32 t111 ((t109 + (Go.bits .xor .u32 t110 ((x5_1 + x6_1) % 4294967296))) % 4294967296)) (wrap64 (x15_1 + 1)))))))) = some (r1, r2, r3, r4) := H
        have A7 := Aside0.mk A70
        clear A70
        replace H := Option.bind_eq_some_iff.mp H
        obtain ⟨t109, A80, H⟩ := H
        replace H : ((bits_RotateLeft32.f x6_1 8).bind fun t110 => ((bits_RotateLeft32.f (Go.bits .xor .u32 t110 ((x5_1 + x6_1) % 4294967296)) 13).bind fun t111 => ((bits_RotateLeft32.f (Go.bits .xor .u32 t108 ((x3_1 + x4_1) % 4294967296)) 7).bind fun t112 => ((bits_RotateLeft32.f (((x5_1 + x6_1) + (Go.bits .xor .u32 t108 ((x3_1 + x4_1) % 4294967296))) % 4294967296) 16).bind fun t113 => (digest_Permute.l0 k1 ((t109 + (Go.bits .xor .u32 t110 ((x5_1 + x6_1) % 4294967296))) % 4294967296) (Go.bits .xor .u32 t112 (((x5_1 + x6_1) + (Go.bits .xor .u32 t108 ((x3_1 + x4_1) % 4294967296))) % 4294967296)) t113 (Go.bits .xor .u32 t111 ((t109 + (Go.bits .xor .u32 t110 ((x5_1 + x6_1) % 4294967296))) % 4294967296)) (wrap64 (x15_1 + 1))))))) = some (r1, r2, r3, r4) := H
        have A8 := Aside0.mk A80
        clear A80
        replace H := Option.bind_eq_some_iff.mp H
        obtain ⟨t110, A90, H⟩ := H
        replace H : ((bits_RotateLeft32.f (Go.bits .xor .u32 t110 ((x5_1 + x6_1) % 4294967296)) 13).bind fun t111 => ((bits_RotateLeft32.f (Go.bits .xor .u32 t108 ((x3_1 + x4_1) % 4294967296)) 7).bind fun t112 => ((bits_RotateLeft32.f (((x5_1 + x6_1) + (Go.bits .xor .u32 t108 ((x3_1 + x4_1) % 4294967296))) % 4294967296) 16).bind fun t113 => (digest_Permute.l0 k1 ((t109 + (Go.bits .xor .u32 t110 ((x5_1 + x6_1) % 4294967296))) % 4294967296) (Go.bits .xor .u32 t112 (((x5_1 + x6_1) + (Go.bits .xor .u32 t108 ((x3_1 + x4_1) % 4294967296))) % 4294967296)) t113 (Go.bits .xor .u32 t111 ((t109 + (Go.bits .xor .u32 t110 ((x5_1 + x6_1) % 4294967296))) % 4294967296)) (wrap64 (x15_1 + 1)))))) = some (r1, r2, r3, r4) := H
        have A9 := Aside0.mk A90
        clear A90
        replace H := Option.bind_eq_some_iff.mp H
        obtain ⟨t111, A100, H⟩ := H
        replace H : ((bits_RotateLeft32.f (Go.bits .xor .u32 t108 ((x3_1 + x4_1) % 4294967296)) 7).bind fun t112 => ((bits_RotateLeft32.f (((x5_1 + x6_1) + (Go.bits .xor .u32 t108 ((x3_1 + x4_1) % 4294967296))) % 4294967296) 16).bind fun t113 => (digest_Permute.l0 k1 ((t109 + (Go.bits .xor .u32 t110 ((x5_1 + x6_1) % 4294967296))) % 4294967296) (Go.bits .xor .u32 t112 (((x5_1 + x6_1) + (Go.bits .xor .u32 t108 ((x3_1 + x4_1) % 4294967296))) % 4294967296)) t113 (Go.bits .xor .u32 t111 ((t109 + (Go.bits .xor .u32 t110 ((x5_1 + x6_1) % 4294967296))) % 4294967296)) (wrap64 (x15_1 + 1))))) = some (r1, r2, r3, r4) := H
        have A10 := Aside0.mk A100
        clear A100
        replace H := Option.bind_eq_some_iff.mp H
        obtain ⟨t112, A110, H⟩ := H
        replace H : ((bits_RotateLeft32.f (((x5_1 + x6_1) + (Go.bits .xor .u32 t108 ((x3_1 + x4_1) % 4294967296))) % 4294967296) 16).bind fun t113 => (digest_Permute.l0 k1 ((t109 + (Go.bits .xor .u32 t110 ((x5_1 + x6_1) % 4294967296))) % 4294967296) (Go.bits .xor .u32 t112 (((x5_1 + x6_1) + (Go.bits .xor .u32 t108 ((x3_1 + x4_1) % 4294967296))) % 4294967296)) t113 (Go.bits .xor .u32 t111 ((t109 + (Go.bits .xor .u32 t110 ((x5_1 + x6_1) % 4294967296))) % 4294967296)) (wrap64 (x15_1 + 1)))) = some (r1, r2, r3, r4) := H
        have A11 := Aside0.mk A110
        clear A110
        replace H := Option.bind_eq_some_iff.mp H
        obtain ⟨t113, A120, H⟩ := H
        replace H : (digest_Permute.l0 k1 ((t109 + (Go.bits .xor .u32 t110 ((x5_1 + x6_1) % 4294967296))) % 4294967296) (Go.bits .xor .u32 t112 (((x5_1 + x6_1) + (Go.bits .xor .u32 t108 ((x3_1 + x4_1) % 4294967296))) % 4294967296)) t113 (Go.bits .xor .u32 t111 ((t109 + (Go.bits .xor .u32 t110 ((x5_1 + x6_1) % 4294967296))) % 4294967296)) (wrap64 (x15_1 + 1))) = some (r1, r2, r3, r4) := H
        have A12 := Aside0.mk A120
        clear A120
        have H' := Aside0.mk H
        clear H
        go_wp2_with (first | (go_at_call 35; (with_reducible refine (bits_RotateLeft32.calls x4_1 5 t108 _ A7.out).mono ?_); rintro e w' ⟨rfl, ⟨nd, rfl⟩⟩; (try first | exact ⟨rfl, _, World.drewN_drewN _ _ _⟩ | exact ⟨rfl, _, Eq.trans (World.drewN_drewN _ _ _) (congrArg (World.drewN _) (Nat.add_assoc _ _ _))⟩)) | (go_at_call 35; (with_reducible refine (bits_RotateLeft32.calls ((x3_1 + x4_1) % 4294967296) 16 t109 _ A8.out).mono ?_); rintro e w' ⟨rfl, ⟨nd, rfl⟩⟩; (try first | exact ⟨rfl, _, World.drewN_drewN _ _ _⟩ | exact ⟨rfl, _, Eq.trans (World.drewN_drewN _ _ _) (congrArg (World.drewN _) (Nat.add_assoc _ _ _))⟩)) | (go_at_call 35; (with_reducible refine (bits_RotateLeft32.calls x6_1 8 t110 _ A9.out).mono ?_); rintro e w' ⟨rfl, ⟨nd, rfl⟩⟩; (try first | exact ⟨rfl, _, World.drewN_drewN _ _ _⟩ | exact ⟨rfl, _, Eq.trans (World.drewN_drewN _ _ _) (congrArg (World.drewN _) (Nat.add_assoc _ _ _))⟩)) | (go_at_call 35; (with_reducible refine (bits_RotateLeft32.calls (Go.bits .xor .u32 t110 ((x5_1 + x6_1) % 4294967296)) 13 t111 _ A10.out).mono ?_); rintro e w' ⟨rfl, ⟨nd, rfl⟩⟩; (try first | exact ⟨rfl, _, World.drewN_drewN _ _ _⟩ | exact ⟨rfl, _, Eq.trans (World.drewN_drewN _ _ _) (congrArg (World.drewN _) (Nat.add_assoc _ _ _))⟩)) | (go_at_call 35; (with_reducible refine (bits_RotateLeft32.calls (Go.bits .xor .u32 t108 ((x3_1 + x4_1) % 4294967296)) 7 t112 _ A11.out).mono ?_); rintro e w' ⟨rfl, ⟨nd, rfl⟩⟩; (try first | exact ⟨rfl, _, World.drewN_drewN _ _ _⟩ | exact ⟨rfl, _, Eq.trans (World.drewN_drewN _ _ _) (congrArg (World.drewN _) (Nat.add_assoc _ _ _))⟩)) | (go_at_call 35; (with_reducible refine (bits_RotateLeft32.calls (((x5_1 + x6_1) + (Go.bits .xor .u32 t108 ((x3_1 + x4_1) % 4294967296))) % 4294967296) 16 t113 _ A12.out).mono ?_); rintro e w' ⟨rfl, ⟨nd, rfl⟩⟩; (try first | exact ⟨rfl, _, World.drewN_drewN _ _ _⟩ | exact ⟨rfl, _, Eq.trans (World.drewN_drewN _ _ _) (congrArg (World.drewN _) (Nat.add_assoc _ _ _))⟩)))
        repeat (go_quiet (first | (go_at_call 35; (with_reducible refine (bits_RotateLeft32.calls x4_1 5 t108 _ A7.out).mono ?_); rintro e w' ⟨rfl, ⟨nd, rfl⟩⟩; (try first | exact ⟨rfl, _, World.drewN_drewN _ _ _⟩ | exact ⟨rfl, _, Eq.trans (World.drewN_drewN _ _ _) (congrArg (World.drewN _) (Nat.add_assoc _ _ _))⟩)) | (go_at_call 35; (with_reducible refine (bits_RotateLeft32.calls ((x3_1 + x4_1) % 4294967296) 16 t109 _ A8.out).mono ?_); rintro e w' ⟨rfl, ⟨nd, rfl⟩⟩; (try first | exact ⟨rfl, _, World.drewN_drewN _ _ _⟩ | exact ⟨rfl, _, Eq.trans (World.drewN_drewN _ _ _) (congrArg (World.drewN _) (Nat.add_assoc _ _ _))⟩)) | (go_at_call 35; (with_reducible refine (bits_RotateLeft32.calls x6_1 8 t110 _ A9.out).mono ?_); rintro e w' ⟨rfl, ⟨nd, rfl⟩⟩; (try first | exact ⟨rfl, _, World.drewN_drewN _ _ _⟩ | exact ⟨rfl, _, Eq.trans (World.drewN_drewN _ _ _) (congrArg (World.drewN _) (Nat.add_assoc _ _ _))⟩)) | (go_at_call 35; (with_reducible refine (bits_RotateLeft32.calls (Go.bits .xor .u32 t110 ((x5_1 + x6_1) % 4294967296)) 13 t111 _ A10.out).mono ?_); rintro e w' ⟨rfl, ⟨nd, rfl⟩⟩; (try first | exact ⟨rfl, _, World.drewN_drewN _ _ _⟩ | exact ⟨rfl, _, Eq.trans (World.drewN_drewN _ _ _) (congrArg (World.drewN _) (Nat.add_assoc _ _ _))⟩)) | (go_at_call 35; (with_reducible refine (bits_RotateLeft32.calls (Go.bits .xor .u32 t108 ((x3_1 + x4_1) % 4294967296)) 7 t112 _ A11.out).mono ?_); rintro e w' ⟨rfl, ⟨nd, rfl⟩⟩; (try first | exact ⟨rfl, _, World.drewN_drewN _ _ _⟩ | exact ⟨rfl, _, Eq.trans (World.drewN_drewN _ _ _) (congrArg (World.drewN _) (Nat.add_assoc _ _ _))⟩)) | (go_at_call 35; (with_reducible refine (bits_RotateLeft32.calls (((x5_1 + x6_1) + (Go.bits .xor .u32 t108 ((x3_1 + x4_1) % 4294967296))) % 4294967296) 16 t113 _ A12.out).mono ?_); rintro e w' ⟨rfl, ⟨nd, rfl⟩⟩; (try first | exact ⟨rfl, _, World.drewN_drewN _ _ _⟩ | exact ⟨rfl, _, Eq.trans (World.drewN_drewN _ _ _) (congrArg (World.drewN _) (Nat.add_assoc _ _ _))⟩))); try go_wp2_with (first | (go_at_call 35; (with_reducible refine (bits_RotateLeft32.calls x4_1 5 t108 _ A7.out).mono ?_); rintro e w' ⟨rfl, ⟨nd, rfl⟩⟩; (try first | exact ⟨rfl, _, World.drewN_drewN _ _ _⟩ | exact ⟨rfl, _, Eq.trans (World.drewN_drewN _ _ _) (congrArg (World.drewN _) (Nat.add_assoc _ _ _))⟩)) | (go_at_call 35; (with_reducible refine (bits_RotateLeft32.calls ((x3_1 + x4_1) % 4294967296) 16 t109 _ A8.out).mono ?_); rintro e w' ⟨rfl, ⟨nd, rfl⟩⟩; (try first | exact ⟨rfl, _, World.drewN_drewN _ _ _⟩ | exact ⟨rfl, _, Eq.trans (World.drewN_drewN _ _ _) (congrArg (World.drewN _) (Nat.add_assoc _ _ _))⟩)) | (go_at_call 35; (with_reducible refine (bits_RotateLeft32.calls x6_1 8 t110 _ A9.out).mono ?_); rintro e w' ⟨rfl, ⟨nd, rfl⟩⟩; (try first | exact ⟨rfl, _, World.drewN_drewN _ _ _⟩ | exact ⟨rfl, _, Eq.trans (World.drewN_drewN _ _ _) (congrArg (World.drewN _) (Nat.add_assoc _ _ _))⟩)) | (go_at_call 35; (with_reducible refine (bits_RotateLeft32.calls (Go.bits .xor .u32 t110 ((x5_1 + x6_1) % 4294967296)) 13 t111 _ A10.out).mono ?_); rintro e w' ⟨rfl, ⟨nd, rfl⟩⟩; (try first | exact ⟨rfl, _, World.drewN_drewN _ _ _⟩ | exact ⟨rfl, _, Eq.trans (World.drewN_drewN _ _ _) (congrArg (World.drewN _) (Nat.add_assoc _ _ _))⟩)) | (go_at_call 35; (with_reducible refine (bits_RotateLeft32.calls (Go.bits .xor .u32 t108 ((x3_1 + x4_1) % 4294967296)) 7 t112 _ A11.out).mono ?_); rintro e w' ⟨rfl, ⟨nd, rfl⟩⟩; (try first | exact ⟨rfl, _, World.drewN_drewN _ _ _⟩ | exact ⟨rfl, _, Eq.trans (World.drewN_drewN _ _ _) (congrArg (World.drewN _) (Nat.add_assoc _ _ _))⟩)) | (go_at_call 35; (with_reducible refine (bits_RotateLeft32.calls (((x5_1 + x6_1) + (Go.bits .xor .u32 t108 ((x3_1 + x4_1) % 4294967296))) % 4294967296) 16 t113 _ A12.out).mono ?_); rintro e w' ⟨rfl, ⟨nd, rfl⟩⟩; (try first | exact ⟨rfl, _, World.drewN_drewN _ _ _⟩ | exact ⟨rfl, _, Eq.trans (World.drewN_drewN _ _ _) (congrArg (World.drewN _) (Nat.add_assoc _ _ _))⟩))))
        go_roundg k1
        case measure => have := HK1.out; omega
        case rel => exact ⟨((t109 + (Go.bits .xor .u32 t110 ((x5_1 + x6_1) % 4294967296))) % 4294967296), (Go.bits .xor .u32 t112 (((x5_1 + x6_1) + (Go.bits .xor .u32 t108 ((x3_1 + x4_1) % 4294967296))) % 4294967296)), (t113), (Go.bits .xor .u32 t111 ((t109 + (Go.bits .xor .u32 t110 ((x5_1 + x6_1) % 4294967296))) % 4294967296)), (wrap64 (x15_1 + 1)), (by first | rfl | (simp; done) | (simp [*]; done)), (by first | rfl | (simp; done) | (simp [*]; done)), (by first | rfl | (simp; done) | (simp [*]; done)), (by first | rfl | (simp; done) | (simp [*]; done)), (by first | rfl | (simp; done) | (simp [*]; done)), H', ⟨by have := HK1.out; omega⟩, ⟨by (with_reducible repeat (first | refine blk_drewN ?_ _ | refine blk_drew ?_ | refine blk_alloc ?_ _)); exact BK105.out⟩, ⟨by (with_reducible repeat (first | refine blk_drewN ?_ _ | refine blk_drew ?_ | refine blk_alloc ?_ _)); exact BK106.out⟩, ⟨by repeat (first | (with_reducible first | exact HB.out | apply below_alloc | apply pw_below_drewN | apply below_drew1 | refine below_set ?_ GE105.out | refine below_set ?_ GE106.out) | exact HB.out)⟩⟩
      · rw [if_neg c6] at H
        have c6b0 : decide (x15_1 < 12) = false := decide_eq_false c6
        clear c6
        simp only [Option.some.injEq, Prod.mk.injEq] at H
        obtain ⟨rfl, rfl, rfl, rfl⟩ := H
        have hnb13 := NB106_105.out
        have hnc13 := NB105_106.out
        have hcz14_0 : wr.cell? ⟨gb106, 0, none⟩ = some (.int .u32 0) := (blk_cell BK106.out 0).trans rfl
        have hcz14_1 : wr.cell? ⟨gb106, 1, none⟩ = some (.int .u32 0) := (blk_cell BK106.out 1).trans rfl
        have hcz14_2 : wr.cell? ⟨gb106, 2, none⟩ = some (.int .u32 0) := (blk_cell BK106.out 2).trans rfl
        have hcz14_3 : wr.cell? ⟨gb106, 3, none⟩ = some (.int .u32 0) := (blk_cell BK106.out 3).trans rfl
        have hfz14_0 := blk_frozen BK106.out 0
        have hfz14_1 := blk_frozen BK106.out 1
        have hfz14_2 := blk_frozen BK106.out 2
        have hfz14_3 := blk_frozen BK106.out 3
        go_wp2
        repeat (go_quiet (fail); try go_wp2)
        refine bodyPost_ret (results_cell_row rfl _ _ gb106 23 #[.int .u32 x3_1, .int .u32 x4_1, .int .u32 x5_1, .int .u32 x6_1] (0, 0) _ rfl (by (with_reducible repeat (first | refine blk_drewN ?_ _ | refine blk_drew ?_ | refine blk_alloc ?_ _)); refine blk_put (cs := #[.int .u32 x3_1, .int .u32 x4_1, .int .u32 x5_1, .int .u32 0]) ?_ 3 _ rfl; (with_reducible repeat (first | refine blk_drewN ?_ _ | refine blk_drew ?_ | refine blk_alloc ?_ _)); refine blk_put (cs := #[.int .u32 x3_1, .int .u32 x4_1, .int .u32 0, .int .u32 0]) ?_ 2 _ rfl; (with_reducible repeat (first | refine blk_drewN ?_ _ | refine blk_drew ?_ | refine blk_alloc ?_ _)); refine blk_put (cs := #[.int .u32 x3_1, .int .u32 0, .int .u32 0, .int .u32 0]) ?_ 1 _ rfl; (with_reducible repeat (first | refine blk_drewN ?_ _ | refine blk_drew ?_ | refine blk_alloc ?_ _)); refine blk_put (cs := #[.int .u32 0, .int .u32 0, .int .u32 0, .int .u32 0]) ?_ 0 _ rfl; (with_reducible repeat (first | refine blk_drewN ?_ _ | refine blk_drew ?_ | refine blk_alloc ?_ _)); exact BK106.out) Try.underlying23 rfl (by kernel_rfl)) rfl ?_
        exact ⟨by first | rfl | (simp [errW_none, errW_some] <;> rfl) | (simp [*, errW_none, errW_some] <;> rfl), by repeat (first | (with_reducible first | exact HB.out | apply below_alloc | apply pw_below_drewN | apply below_drew1 | refine below_set ?_ GE105.out | refine below_set ?_ GE106.out) | exact HB.out)⟩

/-! ### digest_Words: function 31 -/
def digest_Words.l0 : Nat → List Int → Int → Int → Int → Int → Int → Option (Int × Int × Int × Int)
  | 0, _, _, _, _, _, _ => none
  | k + 1, x1, x6, x116000, x116001, x116002, x116003 => if x6 < (x1.length : Int) then (if 0 ≤ x6 then (if (wrap64 (x6 + 1)) < (x1.length : Int) then (if 0 ≤ (wrap64 (x6 + 1)) then ((digest_Permute.f k (Go.bits .xor .u32 x116000 (rd x1 x6)) (Go.bits .xor .u32 x116001 (rd x1 (wrap64 (x6 + 1)))) x116002 x116003).bind fun bt119 => (digest_Words.l0 k x1 (wrap64 (x6 + 2)) bt119.1 bt119.2.1 (Go.bits .xor .u32 bt119.2.2.1 (rd x1 x6)) (Go.bits .xor .u32 bt119.2.2.2 (rd x1 (wrap64 (x6 + 1)))))) else (none)) else ((digest_Permute.f k (Go.bits .xor .u32 x116000 (rd x1 x6)) (Go.bits .xor .u32 x116001 0) x116002 x116003).bind fun bt123 => (digest_Words.l0 k x1 (wrap64 (x6 + 2)) bt123.1 bt123.2.1 (Go.bits .xor .u32 bt123.2.2.1 (rd x1 x6)) (Go.bits .xor .u32 bt123.2.2.2 0)))) else (none)) else ((digest_Permute.f k x116000 x116001 (Go.bits .xor .u32 x116002 4294967295) x116003).bind fun bt127 => ((digest_Permute.f k bt127.1 bt127.2.1 bt127.2.2.1 bt127.2.2.2).bind fun bt131 => (some (bt131.1, bt131.2.1, bt131.2.2.1, bt131.2.2.2))))
def digest_Words.f (k : Nat) (a0 : Int) (l1 : List Int) : Option (Int × Int × Int × Int) := digest_Words.l0 k l1 0 1702391089 1651466610 a0 (((l1.length : Int)) % 4294967296)
theorem digest_Words.mono_l : ∀ k, (∀ y0 y1 y2 y3 y4 y5, LeO (digest_Words.l0 k y0 y1 y2 y3 y4 y5) (digest_Words.l0 (k + 1) y0 y1 y2 y3 y4 y5))
  | 0 => fun _ _ _ _ _ _ r h => by simp [digest_Words.l0] at h
  | k + 1 => by
    have ih0 := digest_Words.mono_l k
    · intro y0 y1 y2 y3 y4 y5
      unfold digest_Words.l0
      repeat' first
      | (with_reducible exact ih0 _ _ _ _ _ _)
      | (with_reducible exact digest_Permute.mono _ _ _ _ _)
      | (with_reducible exact LeO.refl _)
      | (with_reducible exact LeO.none _)
      | (with_reducible refine LeO.ite ?_ ?_)
      | (with_reducible refine LeO.bind ?_ (fun _ => ?_))
      | exact ih0 _ _ _ _ _ _
      | exact digest_Permute.mono _ _ _ _ _
      | exact LeO.none _
      | refine LeO.ite ?_ ?_
      | refine LeO.bind ?_ (fun _ => ?_)
theorem digest_Words.mono : ∀ a0 a1 k, LeO (digest_Words.f k a0 a1) (digest_Words.f (k + 1) a0 a1) := by
  intro a0 a1 k
  have ih0 := digest_Words.mono_l k
  unfold digest_Words.f
  repeat' first
      | (with_reducible exact ih0 _ _ _ _ _ _)
      | (with_reducible exact digest_Permute.mono _ _ _ _ _)
      | (with_reducible exact LeO.refl _)
      | (with_reducible exact LeO.none _)
      | (with_reducible refine LeO.ite ?_ ?_)
      | (with_reducible refine LeO.bind ?_ (fun _ => ?_))
      | exact ih0 _ _ _ _ _ _
      | exact digest_Permute.mono _ _ _ _ _
      | exact LeO.none _
      | refine LeO.ite ?_ ?_
      | refine LeO.bind ?_ (fun _ => ?_)
set_option maxHeartbeats 8000000 in
set_option maxRecDepth 100000 in
theorem digest_Words.calls (k : Nat) (a0 : Int) (A1 : Option Addr) (c1 : Nat) (l1 : List Int) (r1 : Int) (r2 : Int) (r3 : Int) (r4 : Int) (w : World) (hr1 : Kd.C (Kd.int .u32) w A1 l1.length l1) (hc1 : l1.length ≤ c1) (h : digest_Words.f k a0 l1 = some (r1, r2, r3, r4)) :
    Calls Try.prog 31 #[.int .u32 a0, .slice A1 l1.length c1] w fun e w' => e = .returned (.agg #[.int .u32 r1, .int .u32 r2, .int .u32 r3, .int .u32 r4]) ∧ Below w.heap.size w w' := by
  have hu24 := Try.underlying24
  have hu23 := Try.underlying23
  have HR1 := Aside0.mk hr1
  have HC1 := Aside0.mk hc1
  clear hr1 hc1
  have HB := Aside0.mk (Below.refl w.heap.size w)
  have H : (digest_Words.l0 k l1 0 1702391089 1651466610 a0 (((l1.length : Int)) % 4294967296)) = some (r1, r2, r3, r4) := h
  clear h
  have H' := Aside0.mk H
  clear H
  go_enter Try.func31, Try.ntmps31
  go_wp2_with (first | ((with_reducible refine gate_dst (N := 4) rfl ?_); refine box_event ?hg (N := 4) ?hd (cs := #[.int .u32 0, .int .u32 0, .int .u32 0, .int .u32 0]) (t := 24) ?hr ?_; (case hd => rfl); (case hg => rfl); (case hr => first | (go_simp; done) | (go_simp; rfl)); intro gb114 hg w3 hbox hb; have n0_ := Aside0.mk (below_step (by repeat (first | (with_reducible first | exact HB.out | apply below_alloc | apply pw_below_drewN | apply below_drew1) | exact HB.out)) hb); have n1_ := Aside0.mk (hbox); have n2_ := Aside0.mk ((by rw [hg]; exact (below_size (by repeat (first | (with_reducible first | exact HB.out | apply below_alloc | apply pw_below_drewN | apply below_drew1) | exact HB.out))) : w.heap.size ≤ gb114)); have n3_ := Aside0.mk ((by rw [hg]; exact (below_size (by repeat (first | (with_reducible first | exact HB.out | apply below_alloc | apply pw_below_drewN | apply below_drew1) | exact HB.out))) : w.heap.size ≤ gb114)); clear HB; have HB := n0_; have BK114 := n1_; have GW114 := n2_; have GE114 := n3_; clear n0_ n1_ n2_ n3_; clear hb hbox hg) | ((with_reducible refine gate_dst (N := 5) rfl ?_); refine box_event ?hg (N := 5) ?hd (cs := #[.int .u32 0, .int .u32 0, .int .u32 0, .int .u32 0]) (t := 23) ?hr ?_; (case hd => rfl); (case hg => rfl); (case hr => first | (go_simp; done) | (go_simp; rfl)); intro gb115 hg w4 hbox hb; have n0_ := Aside0.mk (blk_below (g := gb114) (o := .cells #[.int .u32 0, .int .u32 0, .int .u32 0, .int .u32 0] 24 (0, 0)) (by (with_reducible repeat (first | refine blk_drewN ?_ _ | refine blk_drew ?_ | refine blk_alloc ?_ _)); exact BK114.out) hb); have n1_ := Aside0.mk (below_step (by repeat (first | (with_reducible first | exact HB.out | apply below_alloc | apply pw_below_drewN | apply below_drew1 | refine below_set ?_ GE114.out) | exact HB.out)) hb); have n2_ := Aside0.mk (hbox); have n3_ := Aside0.mk ((by rw [hg]; exact (below_size (by repeat (first | (with_reducible first | exact HB.out | apply below_alloc | apply pw_below_drewN | apply below_drew1 | refine below_set ?_ GE114.out) | exact HB.out))) : w.heap.size ≤ gb115)); have n4_ := Aside0.mk ((by rw [hg]; exact (below_size (by repeat (first | (with_reducible first | exact HB.out | apply below_alloc | apply pw_below_drewN | apply below_drew1 | refine below_set ?_ GE114.out) | exact HB.out))) : w.heap.size ≤ gb115)); have n5_ := Aside0.mk ((by rw [hg]; exact Nat.ne_of_lt (blk_lt (g := gb114) (o := .cells #[.int .u32 0, .int .u32 0, .int .u32 0, .int .u32 0] 24 (0, 0)) (by (with_reducible repeat (first | refine blk_drewN ?_ _ | refine blk_drew ?_ | refine blk_alloc ?_ _)); exact BK114.out)) : gb114 ≠ gb115)); have n6_ := Aside0.mk ((by rw [hg]; exact Nat.ne_of_gt (blk_lt (g := gb114) (o := .cells #[.int .u32 0, .int .u32 0, .int .u32 0, .int .u32 0] 24 (0, 0)) (by (with_reducible repeat (first | refine blk_drewN ?_ _ | refine blk_drew ?_ | refine blk_alloc ?_ _)); exact BK114.out)) : gb115 ≠ gb114)); clear BK114; clear HB; have BK114 := n0_; have HB := n1_; have BK115 := n2_; have GW115 := n3_; have GE115 := n4_; have NB114_115 := n5_; have NB115_114 := n6_; clear n0_ n1_ n2_ n3_ n4_ n5_ n6_; clear hb hbox hg; have hnb5 := NB115_114.out; have hnc5 := NB114_115.out; have hcz6_0 : w4.cell? ⟨gb115, 0, none⟩ = some (.int .u32 0) := (blk_cell BK115.out 0).trans rfl; have hcz6_1 : w4.cell? ⟨gb115, 1, none⟩ = some (.int .u32 0) := (blk_cell BK115.out 1).trans rfl; have hcz6_2 : w4.cell? ⟨gb115, 2, none⟩ = some (.int .u32 0) := (blk_cell BK115.out 2).trans rfl; have hcz6_3 : w4.cell? ⟨gb115, 3, none⟩ = some (.int .u32 0) := (blk_cell BK115.out 3).trans rfl; have hfz6_0 := blk_frozen BK115.out 0; have hfz6_1 := blk_frozen BK115.out 1; have hfz6_2 := blk_frozen BK115.out 2; have hfz6_3 := blk_frozen BK115.out 3))
  go_loopg [6] k (fun kq v6 w' => ∃ (x6_1 : Int) (x116000_1 : Int) (x116001_1 : Int) (x116002_1 : Int) (x116003_1 : Int), v6 = .int .i64 x6_1 ∧ Aside0 (digest_Words.l0 kq l1 x6_1 x116000_1 x116001_1 x116002_1 x116003_1 = some (r1, r2, r3, r4)) ∧ Aside0 (kq ≤ k) ∧ Aside0 (w'.heap[gb114]? = some (.cells #[.int .u32 0, .int .u32 0, .int .u32 0, .int .u32 0] 24 (0, 0))) ∧ Aside0 (w'.heap[gb115]? = some (.cells #[.int .u32 x116000_1, .int .u32 x116001_1, .int .u32 x116002_1, .int .u32 x116003_1] 23 (0, 0))) ∧ Aside0 (Below w.heap.size w w'))
  case atStart => exact ⟨(0), (1702391089), (1651466610), (a0), (((l1.length : Int)) % 4294967296), (by first | rfl | (simp; done) | (simp [*]; done)), H', ⟨Nat.le_refl _⟩, ⟨by (with_reducible repeat (first | refine blk_drewN ?_ _ | refine blk_drew ?_ | refine blk_alloc ?_ _)); refine blk_far ?_ NB114_115.out _; (with_reducible repeat (first | refine blk_drewN ?_ _ | refine blk_drew ?_ | refine blk_alloc ?_ _)); refine blk_far ?_ NB114_115.out _; (with_reducible repeat (first | refine blk_drewN ?_ _ | refine blk_drew ?_ | refine blk_alloc ?_ _)); refine blk_far ?_ NB114_115.out _; (with_reducible repeat (first | refine blk_drewN ?_ _ | refine blk_drew ?_ | refine blk_alloc ?_ _)); refine blk_far ?_ NB114_115.out _; (with_reducible repeat (first | refine blk_drewN ?_ _ | refine blk_drew ?_ | refine blk_alloc ?_ _)); exact BK114.out⟩, ⟨by (with_reducible repeat (first | refine blk_drewN ?_ _ | refine blk_drew ?_ | refine blk_alloc ?_ _)); refine blk_put (cs := #[.int .u32 1702391089, .int .u32 1651466610, .int .u32 a0, .int .u32 0]) ?_ 3 _ rfl; (with_reducible repeat (first | refine blk_drewN ?_ _ | refine blk_drew ?_ | refine blk_alloc ?_ _)); refine blk_put (cs := #[.int .u32 1702391089, .int .u32 1651466610, .int .u32 0, .int .u32 0]) ?_ 2 _ rfl; (with_reducible repeat (first | refine blk_drewN ?_ _ | refine blk_drew ?_ | refine blk_alloc ?_ _)); refine blk_put (cs := #[.int .u32 1702391089, .int .u32 0, .int .u32 0, .int .u32 0]) ?_ 1 _ rfl; (with_reducible repeat (first | refine blk_drewN ?_ _ | refine blk_drew ?_ | refine blk_alloc ?_ _)); refine blk_put (cs := #[.int .u32 0, .int .u32 0, .int .u32 0, .int .u32 0]) ?_ 0 _ rfl; (with_reducible repeat (first | refine blk_drewN ?_ _ | refine blk_drew ?_ | refine blk_alloc ?_ _)); exact BK115.out⟩, ⟨by repeat (first | (with_reducible first | exact HB.out | apply below_alloc | apply pw_below_drewN | apply below_drew1 | refine below_set ?_ GE114.out | refine below_set ?_ GE115.out) | exact HB.out)⟩⟩
  case round =>
    clear H'
    try clear c1
    try clear p2
    try clear c3
    try clear c5
    try clear hcz6_0
    try clear hcz6_1
    try clear hcz6_2
    try clear hcz6_3
    try clear hfz6_0
    try clear hfz6_1
    try clear hfz6_2
    try clear hfz6_3
    obtain ⟨x6_1, x116000_1, x116001_1, x116002_1, x116003_1, rfl, HA, HK1, BK114, BK115, HB⟩ := hrel
    cases gk with
    | zero => exact absurd HA.out (by simp [digest_Words.l0])
    | succ k1 =>
      have H := HA.out
      clear HA
      simp only [digest_Words.l0] at H
      by_cases c7 : x6_1 < (l1.length : Int)
      · rw [if_pos c7] at H
        have c7b0 : decide (x6_1 < (l1.length : Int)) = true := decide_eq_true c7
        clear c7
        by_cases c8 : 0 ≤ x6_1
        · rw [if_pos c8] at H
          have c8b0 : decide (0 ≤ x6_1) = true := decide_eq_true c8
          clear c8
          by_cases c9 : (wrap64 (x6_1 + 1)) < (l1.length : Int)
          · rw [if_pos c9] at H
            have c9b0 : decide ((wrap64 (x6_1 + 1)) < (l1.length : Int)) = true := decide_eq_true c9
            clear c9
            obtain ⟨ji10, hji10⟩ : ∃ j_ : Int, (wrap64 (x6_1 + 1)) = j_ := ⟨_, rfl⟩
            replace H : (if 0 ≤ (ji10) then ((digest_Permute.f k1 (Go.bits .xor .u32 x116000_1 (rd l1 x6_1)) (Go.bits .xor .u32 x116001_1 (rd l1 (ji10))) x116002_1 x116003_1).bind fun bt119 => (digest_Words.l0 k1 l1 (wrap64 (x6_1 + 2)) bt119.1 bt119.2.1 (Go.bits .xor .u32 bt119.2.2.1 (rd l1 x6_1)) (Go.bits .xor .u32 bt119.2.2.2 (rd l1 (ji10))))) else (none)) = some (r1, r2, r3, r4) := by first | (rw [hji10] at H; exact H) | (simp only [hji10] at H ⊢; exact H)
            (try rw [hji10] at c9b0)
            have hji10w : (IntKind.i64.wrap (x6_1 + 1)) = ji10 := (i64_w _).trans hji10
            by_cases c11 : 0 ≤ (ji10)
            · rw [if_pos c11] at H
              have c11b0 : decide (0 ≤ (ji10)) = true := decide_eq_true c11
              clear c11
              replace H := Option.bind_eq_some_iff.mp H
              obtain ⟨⟨t119, t120, t121, t122⟩, A120, H⟩ := H
              replace H : (digest_Words.l0 k1 l1 (wrap64 (x6_1 + 2)) t119 t120 (Go.bits .xor .u32 t121 (rd l1 x6_1)) (Go.bits .xor .u32 t122 (rd l1 (ji10)))) = some (r1, r2, r3, r4) := H
              have A12 := Aside0.mk A120
              clear A120
              have H' := Aside0.mk H
              clear H
              have p117 : 0 ≤ (x6_1 : Int) := of_decide_eq_true (by first | (with_reducible assumption) | assumption)
              have q117 : x6_1 < (l1.length : Int) := of_decide_eq_true (by first | (with_reducible assumption) | assumption)
              obtain ⟨ad117, e117, hx117_0⟩ := Kd.at_int HR1.out x6_1 p117 q117
              cases e117
              replace hx117_0 := (HB.out.cell (World.block_lt_of_cell? w _ hx117_0)).trans hx117_0
              replace p117 := eq_true p117
              replace q117 := eq_true q117
              have p118 : 0 ≤ ((ji10) : Int) := of_decide_eq_true (by first | (with_reducible assumption) | assumption)
              have q118 : (ji10) < (l1.length : Int) := of_decide_eq_true (by first | (with_reducible assumption) | assumption)
              obtain ⟨ad118, e118, hx118_0⟩ := Kd.at_int HR1.out (ji10) p118 q118
              obtain rfl : ad117 = ad118 := (by injection e118)
              replace hx118_0 := (HB.out.cell (World.block_lt_of_cell? w _ hx118_0)).trans hx118_0
              replace p118 := eq_true p118
              replace q118 := eq_true q118
              have hnb13 := NB115_114.out
              have hnc13 := NB114_115.out
              have hcz14_0 : wr.cell? ⟨gb115, 0, none⟩ = some (.int .u32 x116000_1) := (blk_cell BK115.out 0).trans rfl
              have hcz14_1 : wr.cell? ⟨gb115, 1, none⟩ = some (.int .u32 x116001_1) := (blk_cell BK115.out 1).trans rfl
              have hcz14_2 : wr.cell? ⟨gb115, 2, none⟩ = some (.int .u32 x116002_1) := (blk_cell BK115.out 2).trans rfl
              have hcz14_3 : wr.cell? ⟨gb115, 3, none⟩ = some (.int .u32 x116003_1) := (blk_cell BK115.out 3).trans rfl
              have hfz14_0 := blk_frozen BK115.out 0
              have hfz14_1 := blk_frozen BK115.out 1
              have hfz14_2 := blk_frozen BK115.out 2
              have hfz14_3 := blk_frozen BK115.out 3
              go_wp2_with (first | ((with_reducible refine gate_callee (f := 33) rfl ?_); refine goesL_ (some 45) rfl rfl Try.func33 (by kernel_rfl) rfl #[.agg #[.int .u32 (Go.bits .xor .u32 x116000_1 (rd l1 x6_1)), .int .u32 (Go.bits .xor .u32 x116001_1 (rd l1 (ji10))), .int .u32 x116002_1, .int .u32 x116003_1]] rfl (by (try simp only [List.map_toArray, List.map_cons, List.map_nil]); first | done | (simp only [hji10]; rfl) | rfl | (simp only [List.length_drop, List.length_take]; rfl)) ?_; (with_reducible refine (digest_Permute.calls k1 (Go.bits .xor .u32 x116000_1 (rd l1 x6_1)) (Go.bits .xor .u32 x116001_1 (rd l1 (ji10))) x116002_1 x116003_1 t119 t120 t121 t122 _ A12.out).mono ?_); rintro e w15 ⟨rfl, hb⟩; refine ⟨_, rfl, ?_⟩; have n0_ := Aside0.mk (blk_below (g := gb114) (o := .cells #[.int .u32 0, .int .u32 0, .int .u32 0, .int .u32 0] 24 (0, 0)) (by (with_reducible repeat (first | refine blk_drewN ?_ _ | refine blk_drew ?_ | refine blk_alloc ?_ _)); refine blk_far ?_ NB114_115.out _; (with_reducible repeat (first | refine blk_drewN ?_ _ | refine blk_drew ?_ | refine blk_alloc ?_ _)); refine blk_far ?_ NB114_115.out _; (with_reducible repeat (first | refine blk_drewN ?_ _ | refine blk_drew ?_ | refine blk_alloc ?_ _)); exact BK114.out) hb); have n1_ := Aside0.mk (blk_below (g := gb115) (o := .cells #[.int .u32 (Go.bits .xor .u32 x116000_1 (rd l1 x6_1)), .int .u32 (Go.bits .xor .u32 x116001_1 (rd l1 (ji10))), .int .u32 x116002_1, .int .u32 x116003_1] 23 (0, 0)) (by (with_reducible repeat (first | refine blk_drewN ?_ _ | refine blk_drew ?_ | refine blk_alloc ?_ _)); refine blk_put (cs := #[.int .u32 (Go.bits .xor .u32 x116000_1 (rd l1 x6_1)), .int .u32 x116001_1, .int .u32 x116002_1, .int .u32 x116003_1]) ?_ 1 _ rfl; (with_reducible repeat (first | refine blk_drewN ?_ _ | refine blk_drew ?_ | refine blk_alloc ?_ _)); refine blk_put (cs := #[.int .u32 x116000_1, .int .u32 x116001_1, .int .u32 x116002_1, .int .u32 x116003_1]) ?_ 0 _ rfl; (with_reducible repeat (first | refine blk_drewN ?_ _ | refine blk_drew ?_ | refine blk_alloc ?_ _)); exact BK115.out) hb); have n2_ := Aside0.mk (below_step (by repeat (first | (with_reducible first | exact HB.out | apply below_alloc | apply pw_below_drewN | apply below_drew1 | refine below_set ?_ GE114.out | refine below_set ?_ GE115.out) | exact HB.out)) hb); clear BK114; clear BK115; clear HB; have BK114 := n0_; have BK115 := n1_; have HB := n2_; clear n0_ n1_ n2_; (try clear hb); (try clear hb2); (try clear hk); (try clear hi); have hcz16_0 : w15.cell? ⟨gb115, 0, none⟩ = some (.int .u32 (Go.bits .xor .u32 x116000_1 (rd l1 x6_1))) := (blk_cell BK115.out 0).trans rfl; have hcz16_1 : w15.cell? ⟨gb115, 1, none⟩ = some (.int .u32 (Go.bits .xor .u32 x116001_1 (rd l1 (ji10)))) := (blk_cell BK115.out 1).trans rfl; have hcz16_2 : w15.cell? ⟨gb115, 2, none⟩ = some (.int .u32 x116002_1) := (blk_cell BK115.out 2).trans rfl; have hcz16_3 : w15.cell? ⟨gb115, 3, none⟩ = some (.int .u32 x116003_1) := (blk_cell BK115.out 3).trans rfl; have hfz16_0 := blk_frozen BK115.out 0; have hfz16_1 := blk_frozen BK115.out 1; have hfz16_2 := blk_frozen BK115.out 2; have hfz16_3 := blk_frozen BK115.out 3))
              go_roundg k1
              case measure => have := HK1.out; omega
              case rel => exact ⟨(wrap64 (x6_1 + 2)), (t119), (t120), (Go.bits .xor .u32 t121 (rd l1 x6_1)), (Go.bits .xor .u32 t122 (rd l1 (ji10))), (by first | rfl | (simp; done) | (simp [*]; done)), H', ⟨by have := HK1.out; omega⟩, ⟨by (with_reducible repeat (first | refine blk_drewN ?_ _ | refine blk_drew ?_ | refine blk_alloc ?_ _)); refine blk_far ?_ NB114_115.out _; (with_reducible repeat (first | refine blk_drewN ?_ _ | refine blk_drew ?_ | refine blk_alloc ?_ _)); refine blk_far ?_ NB114_115.out _; (with_reducible repeat (first | refine blk_drewN ?_ _ | refine blk_drew ?_ | refine blk_alloc ?_ _)); refine blk_far ?_ NB114_115.out _; (with_reducible repeat (first | refine blk_drewN ?_ _ | refine blk_drew ?_ | refine blk_alloc ?_ _)); refine blk_far ?_ NB114_115.out _; (with_reducible repeat (first | refine blk_drewN ?_ _ | refine blk_drew ?_ | refine blk_alloc ?_ _)); refine blk_far ?_ NB114_115.out _; (with_reducible repeat (first | refine blk_drewN ?_ _ | refine blk_drew ?_ | refine blk_alloc ?_ _)); refine blk_far ?_ NB114_115.out _; (with_reducible repeat (first | refine blk_drewN ?_ _ | refine blk_drew ?_ | refine blk_alloc ?_ _)); exact BK114.out⟩, ⟨by (with_reducible repeat (first | refine blk_drewN ?_ _ | refine blk_drew ?_ | refine blk_alloc ?_ _)); refine blk_put (cs := #[.int .u32 t119, .int .u32 t120, .int .u32 (Go.bits .xor .u32 t121 (rd l1 x6_1)), .int .u32 t122]) ?_ 3 _ rfl; (with_reducible repeat (first | refine blk_drewN ?_ _ | refine blk_drew ?_ | refine blk_alloc ?_ _)); refine blk_put (cs := #[.int .u32 t119, .int .u32 t120, .int .u32 t121, .int .u32 t122]) ?_ 2 _ rfl; (with_reducible repeat (first | refine blk_drewN ?_ _ | refine blk_drew ?_ | refine blk_alloc ?_ _)); refine blk_put (cs := #[.int .u32 t119, .int .u32 t120, .int .u32 t121, .int .u32 x116003_1]) ?_ 3 _ rfl; (with_reducible repeat (first | refine blk_drewN ?_ _ | refine blk_drew ?_ | refine blk_alloc ?_ _)); refine blk_put (cs := #[.int .u32 t119, .int .u32 t120, .int .u32 x116002_1, .int .u32 x116003_1]) ?_ 2 _ rfl; (with_reducible repeat (first | refine blk_drewN ?_ _ | refine blk_drew ?_ | refine blk_alloc ?_ _)); refine blk_put (cs := #[.int .u32 t119, .int .u32 (Go.bits .xor .u32 x116001_1 (rd l1 (ji10))), .int .u32 x116002_1, .int .u32 x116003_1]) ?_ 1 _ rfl; (with_reducible repeat (first | refine blk_drewN ?_ _ | refine blk_drew ?_ | refine blk_alloc ?_ _)); refine blk_put (cs := #[.int .u32 (Go.bits .xor .u32 x116000_1 (rd l1 x6_1)), .int .u32 (Go.bits .xor .u32 x116001_1 (rd l1 (ji10))), .int .u32 x116002_1, .int .u32 x116003_1]) ?_ 0 _ rfl; (with_reducible repeat (first | refine blk_drewN ?_ _ | refine blk_drew ?_ | refine blk_alloc ?_ _)); exact BK115.out⟩, ⟨by repeat (first | (with_reducible first | exact HB.out | apply below_alloc | apply pw_below_drewN | apply below_drew1 | refine below_set ?_ GE114.out | refine below_set ?_ GE115.out) | exact HB.out)⟩⟩
            · rw [if_neg c11] at H
              exact absurd H (by simp)
          · rw [if_neg c9] at H
            have c9b0 : decide ((wrap64 (x6_1 + 1)) < (l1.length : Int)) = false := decide_eq_false c9
            clear c9
            replace H := Option.bind_eq_some_iff.mp H
            obtain ⟨⟨t123, t124, t125, t126⟩, A170, H⟩ := H
            replace H : (digest_Words.l0 k1 l1 (wrap64 (x6_1 + 2)) t123 t124 (Go.bits .xor .u32 t125 (rd l1 x6_1)) (Go.bits .xor .u32 t126 0)) = some (r1, r2, r3, r4) := H
            have A17 := Aside0.mk A170
            clear A170
            have H' := Aside0.mk H
            clear H
            have p117 : 0 ≤ (x6_1 : Int) := of_decide_eq_true (by first | (with_reducible assumption) | assumption)
            have q117 : x6_1 < (l1.length : Int) := of_decide_eq_true (by first | (with_reducible assumption) | assumption)
            obtain ⟨ad117, e117, hx117_0⟩ := Kd.at_int HR1.out x6_1 p117 q117
            cases e117
            replace hx117_0 := (HB.out.cell (World.block_lt_of_cell? w _ hx117_0)).trans hx117_0
            replace p117 := eq_true p117
            replace q117 := eq_true q117
            have hnb18 := NB115_114.out
            have hnc18 := NB114_115.out
            have hcz19_0 : wr.cell? ⟨gb115, 0, none⟩ = some (.int .u32 x116000_1) := (blk_cell BK115.out 0).trans rfl
            have hcz19_1 : wr.cell? ⟨gb115, 1, none⟩ = some (.int .u32 x116001_1) := (blk_cell BK115.out 1).trans rfl
            have hcz19_2 : wr.cell? ⟨gb115, 2, none⟩ = some (.int .u32 x116002_1) := (blk_cell BK115.out 2).trans rfl
            have hcz19_3 : wr.cell? ⟨gb115, 3, none⟩ = some (.int .u32 x116003_1) := (blk_cell BK115.out 3).trans rfl
            have hfz19_0 := blk_frozen BK115.out 0
            have hfz19_1 := blk_frozen BK115.out 1
            have hfz19_2 := blk_frozen BK115.out 2
            have hfz19_3 := blk_frozen BK115.out 3
            go_wp2_with (first | ((with_reducible refine gate_callee (f := 33) rfl ?_); refine goesL_ (some 45) rfl rfl Try.func33 (by kernel_rfl) rfl #[.agg #[.int .u32 (Go.bits .xor .u32 x116000_1 (rd l1 x6_1)), .int .u32 (Go.bits .xor .u32 x116001_1 0), .int .u32 x116002_1, .int .u32 x116003_1]] rfl (by (try simp only [List.map_toArray, List.map_cons, List.map_nil]); first | done | rfl | (simp only [List.length_drop, List.length_take]; rfl)) ?_; (with_reducible refine (digest_Permute.calls k1 (Go.bits .xor .u32 x116000_1 (rd l1 x6_1)) (Go.bits .xor .u32 x116001_1 0) x116002_1 x116003_1 t123 t124 t125 t126 _ A17.out).mono ?_); rintro e w20 ⟨rfl, hb⟩; refine ⟨_, rfl, ?_⟩; have n0_ := Aside0.mk (blk_below (g := gb114) (o := .cells #[.int .u32 0, .int .u32 0, .int .u32 0, .int .u32 0] 24 (0, 0)) (by (with_reducible repeat (first | refine blk_drewN ?_ _ | refine blk_drew ?_ | refine blk_alloc ?_ _)); refine blk_far ?_ NB114_115.out _; (with_reducible repeat (first | refine blk_drewN ?_ _ | refine blk_drew ?_ | refine blk_alloc ?_ _)); refine blk_far ?_ NB114_115.out _; (with_reducible repeat (first | refine blk_drewN ?_ _ | refine blk_drew ?_ | refine blk_alloc ?_ _)); exact BK114.out) hb); have n1_ := Aside0.mk (blk_below (g := gb115) (o := .cells #[.int .u32 (Go.bits .xor .u32 x116000_1 (rd l1 x6_1)), .int .u32 (Go.bits .xor .u32 x116001_1 0), .int .u32 x116002_1, .int .u32 x116003_1] 23 (0, 0)) (by (with_reducible repeat (first | refine blk_drewN ?_ _ | refine blk_drew ?_ | refine blk_alloc ?_ _)); refine blk_put (cs := #[.int .u32 (Go.bits .xor .u32 x116000_1 (rd l1 x6_1)), .int .u32 x116001_1, .int .u32 x116002_1, .int .u32 x116003_1]) ?_ 1 _ rfl; (with_reducible repeat (first | refine blk_drewN ?_ _ | refine blk_drew ?_ | refine blk_alloc ?_ _)); refine blk_put (cs := #[.int .u32 x116000_1, .int .u32 x116001_1, .int .u32 x116002_1, .int .u32 x116003_1]) ?_ 0 _ rfl; (with_reducible repeat (first | refine blk_drewN ?_ _ | refine blk_drew ?_ | refine blk_alloc ?_ _)); exact BK115.out) hb); have n2_ := Aside0.mk (below_step (by repeat (first | (with_reducible first | exact HB.out | apply below_alloc | apply pw_below_drewN | apply below_drew1 | refine below_set ?_ GE114.out | refine below_set ?_ GE115.out) | exact HB.out)) hb); clear BK114; clear BK115; clear HB; have BK114 := n0_; have BK115 := n1_; have HB := n2_; clear n0_ n1_ n2_; (try clear hb); (try clear hb2); (try clear hk); (try clear hi); have hcz21_0 : w20.cell? ⟨gb115, 0, none⟩ = some (.int .u32 (Go.bits .xor .u32 x116000_1 (rd l1 x6_1))) := (blk_cell BK115.out 0).trans rfl; have hcz21_1 : w20.cell? ⟨gb115, 1, none⟩ = some (.int .u32 (Go.bits .xor .u32 x116001_1 0)) := (blk_cell BK115.out 1).trans rfl; have hcz21_2 : w20.cell? ⟨gb115, 2, none⟩ = some (.int .u32 x116002_1) := (blk_cell BK115.out 2).trans rfl; have hcz21_3 : w20.cell? ⟨gb115, 3, none⟩ = some (.int .u32 x116003_1) := (blk_cell BK115.out 3).trans rfl; have hfz21_0 := blk_frozen BK115.out 0; have hfz21_1 := blk_frozen BK115.out 1; have hfz21_2 := blk_frozen BK115.out 2; have hfz21_3 := blk_frozen BK115.out 3))
            go_roundg k1
            case measure => have := HK1.out; omega
            case rel => exact ⟨(wrap64 (x6_1 + 2)), (t123), (t124), (Go.bits .xor .u32 t125 (rd l1 x6_1)), (Go.bits .xor .u32 t126 0), (by first | rfl | (simp; done) | (simp [*]; done)), H', ⟨by have := HK1.out; omega⟩, ⟨by (with_reducible repeat (first | refine blk_drewN ?_ _ | refine blk_drew ?_ | refine blk_alloc ?_ _)); refine blk_far ?_ NB114_115.out _; (with_reducible repeat (first | refine blk_drewN ?_ _ | refine blk_drew ?_ | refine blk_alloc ?_ _)); refine blk_far ?_ NB114_115.out _; (with_reducible repeat (first | refine blk_drewN ?_ _ | refine blk_drew ?_ | refine blk_alloc ?_ _)); refine blk_far ?_ NB114_115.out _; (with_reducible repeat (first | refine blk_drewN ?_ _ | refine blk_drew ?_ | refine blk_alloc ?_ _)); refine blk_far ?_ NB114_115.out _; (with_reducible repeat (first | refine blk_drewN ?_ _ | refine blk_drew ?_ | refine blk_alloc ?_ _)); refine blk_far ?_ NB114_115.out _; (with_reducible repeat (first | refine blk_drewN ?_ _ | refine blk_drew ?_ | refine blk_alloc ?_ _)); refine blk_far ?_ NB114_115.out _; (with_reducible repeat (first | refine blk_drewN ?_ _ | refine blk_drew ?_ | refine blk_alloc ?_ _)); exact BK114.out⟩, ⟨by (with_reducible repeat (first | refine blk_drewN ?_ _ | refine blk_drew ?_ | refine blk_alloc ?_ _)); refine blk_put (cs := #[.int .u32 t123, .int .u32 t124, .int .u32 (Go.bits .xor .u32 t125 (rd l1 x6_1)), .int .u32 t126]) ?_ 3 _ rfl; (with_reducible repeat (first | refine blk_drewN ?_ _ | refine blk_drew ?_ | refine blk_alloc ?_ _)); refine blk_put (cs := #[.int .u32 t123, .int .u32 t124, .int .u32 t125, .int .u32 t126]) ?_ 2 _ rfl; (with_reducible repeat (first | refine blk_drewN ?_ _ | refine blk_drew ?_ | refine blk_alloc ?_ _)); refine blk_put (cs := #[.int .u32 t123, .int .u32 t124, .int .u32 t125, .int .u32 x116003_1]) ?_ 3 _ rfl; (with_reducible repeat (first | refine blk_drewN ?_ _ | refine blk_drew ?_ | refine blk_alloc ?_ _)); refine blk_put (cs := #[.int .u32 t123, .int .u32 t124, .int .u32 x116002_1, .int .u32 x116003_1]) ?_ 2 _ rfl; (with_reducible repeat (first | refine blk_drewN ?_ _ | refine blk_drew ?_ | refine blk_alloc ?_ _)); refine blk_put (cs := #[.int .u32 t123, .int .u32 (Go.bits .xor .u32 x116001_1 0), .int .u32 x116002_1, .int .u32 x116003_1]) ?_ 1 _ rfl; (with_reducible repeat (first | refine blk_drewN ?_ _ | refine blk_drew ?_ | refine blk_alloc ?_ _)); refine blk_put (cs := #[.int .u32 (Go.bits .xor .u32 x116000_1 (rd l1 x6_1)), .int .u32 (Go.bits .xor .u32 x116001_1 0), .int .u32 x116002_1, .int .u32 x116003_1]) ?_ 0 _ rfl; (with_reducible repeat (first | refine blk_drewN ?_ _ | refine blk_drew ?_ | refine blk_alloc ?_ _)); exact BK115.out⟩, ⟨by repeat (first | (with_reducible first | exact HB.out | apply below_alloc | apply pw_below_drewN | apply below_drew1 | refine below_set ?_ GE114.out | refine below_set ?_ GE115.out) | exact HB.out)⟩⟩
        · rw [if_neg c8] at H
          exact absurd H (by simp)
      · rw [if_neg c7] at H
        have c7b0 : decide (x6_1 < (l1.length : Int)) = false := decide_eq_false c7
        clear c7
        replace H := Option.bind_eq_some_iff.mp H
        obtain ⟨⟨t127, t128, t129, t130⟩, A220, H⟩ := H
        replace H : ((digest_Permute.f k1 t127 t128 t129 t130).bind fun bt131 => (some (bt131.1, bt131.2.1, bt131.2.2.1, bt131.2.2.2))) = some (r1, r2, r3, r4) := H
        have A22 := Aside0.mk A220
        clear A220
        replace H := Option.bind_eq_some_iff.mp H
        obtain ⟨⟨t131, t132, t133, t134⟩, A230, H⟩ := H
        replace H : (some (t131, t132, t133, t134)) = some (r1, r2, r3, r4) := H
        have A23 := Aside0.mk A230
        clear A230
        simp only [Option.some.injEq, Prod.mk.injEq] at H
        obtain ⟨rfl, rfl, rfl, rfl⟩ := H
        have hnb24 := NB115_114.out
        have hnc24 := NB114_115.out
        have hcz25_0 : wr.cell? ⟨gb115, 0, none⟩ = some (.int .u32 x116000_1) := (blk_cell BK115.out 0).trans rfl
        have hcz25_1 : wr.cell? ⟨gb115, 1, none⟩ = some (.int .u32 x116001_1) := (blk_cell BK115.out 1).trans rfl
        have hcz25_2 : wr.cell? ⟨gb115, 2, none⟩ = some (.int .u32 x116002_1) := (blk_cell BK115.out 2).trans rfl
        have hcz25_3 : wr.cell? ⟨gb115, 3, none⟩ = some (.int .u32 x116003_1) := (blk_cell BK115.out 3).trans rfl
        have hfz25_0 := blk_frozen BK115.out 0
        have hfz25_1 := blk_frozen BK115.out 1
        have hfz25_2 := blk_frozen BK115.out 2
        have hfz25_3 := blk_frozen BK115.out 3
        go_wp2_with (first | ((with_reducible refine gate_callee (f := 33) rfl ?_); refine goesL_ (some 61) rfl rfl Try.func33 (by kernel_rfl) rfl #[.agg #[.int .u32 x116000_1, .int .u32 x116001_1, .int .u32 (Go.bits .xor .u32 x116002_1 4294967295), .int .u32 x116003_1]] rfl (by (try simp only [List.map_toArray, List.map_cons, List.map_nil]); first | done | rfl | (simp only [List.length_drop, List.length_take]; rfl)) ?_; (with_reducible refine (digest_Permute.calls k1 x116000_1 x116001_1 (Go.bits .xor .u32 x116002_1 4294967295) x116003_1 t127 t128 t129 t130 _ A22.out).mono ?_); rintro e w26 ⟨rfl, hb⟩; refine ⟨_, rfl, ?_⟩; have n0_ := Aside0.mk (blk_below (g := gb114) (o := .cells #[.int .u32 0, .int .u32 0, .int .u32 0, .int .u32 0] 24 (0, 0)) (by (with_reducible repeat (first | refine blk_drewN ?_ _ | refine blk_drew ?_ | refine blk_alloc ?_ _)); refine blk_far ?_ NB114_115.out _; (with_reducible repeat (first | refine blk_drewN ?_ _ | refine blk_drew ?_ | refine blk_alloc ?_ _)); exact BK114.out) hb); have n1_ := Aside0.mk (blk_below (g := gb115) (o := .cells #[.int .u32 x116000_1, .int .u32 x116001_1, .int .u32 (Go.bits .xor .u32 x116002_1 4294967295), .int .u32 x116003_1] 23 (0, 0)) (by (with_reducible repeat (first | refine blk_drewN ?_ _ | refine blk_drew ?_ | refine blk_alloc ?_ _)); refine blk_put (cs := #[.int .u32 x116000_1, .int .u32 x116001_1, .int .u32 x116002_1, .int .u32 x116003_1]) ?_ 2 _ rfl; (with_reducible repeat (first | refine blk_drewN ?_ _ | refine blk_drew ?_ | refine blk_alloc ?_ _)); exact BK115.out) hb); have n2_ := Aside0.mk (below_step (by repeat (first | (with_reducible first | exact HB.out | apply below_alloc | apply pw_below_drewN | apply below_drew1 | refine below_set ?_ GE114.out | refine below_set ?_ GE115.out) | exact HB.out)) hb); clear BK114; clear BK115; clear HB; have BK114 := n0_; have BK115 := n1_; have HB := n2_; clear n0_ n1_ n2_; (try clear hb); (try clear hb2); (try clear hk); (try clear hi)) | ((with_reducible refine gate_callee (f := 33) rfl ?_); refine goesL_ (some 62) rfl rfl Try.func33 (by kernel_rfl) rfl #[.agg #[.int .u32 t127, .int .u32 t128, .int .u32 t129, .int .u32 t130]] rfl (by (try simp only [List.map_toArray, List.map_cons, List.map_nil]); first | done | rfl | (simp only [List.length_drop, List.length_take]; rfl)) ?_; (with_reducible refine (digest_Permute.calls k1 t127 t128 t129 t130 t131 t132 t133 t134 _ A23.out).mono ?_); rintro e w27 ⟨rfl, hb⟩; refine ⟨_, rfl, ?_⟩; have n0_ := Aside0.mk (blk_below (g := gb114) (o := .cells #[.int .u32 0, .int .u32 0, .int .u32 0, .int .u32 0] 24 (0, 0)) (by (with_reducible repeat (first | refine blk_drewN ?_ _ | refine blk_drew ?_ | refine blk_alloc ?_ _)); exact BK114.out) hb); have n1_ := Aside0.mk (blk_below (g := gb115) (o := .cells #[.int .u32 x116000_1, .int .u32 x116001_1, .int .u32 (Go.bits .xor .u32 x116002_1 4294967295), .int .u32 x116003_1] 23 (0, 0)) (by (with_reducible repeat (first | refine blk_drewN ?_ _ | refine blk_drew ?_ | refine blk_alloc ?_ _)); exact BK115.out) hb); have n2_ := Aside0.mk (below_step (by repeat (first | (with_reducible first | exact HB.out | apply below_alloc | apply pw_below_drewN | apply below_drew1 | refine below_set ?_ GE114.out | refine below_set ?_ GE115.out) | exact HB.out)) hb); clear BK114; clear BK115; clear HB; have BK114 := n0_; have BK115 := n1_; have HB := n2_; clear n0_ n1_ n2_; (try clear hb); (try clear hb2); (try clear hk); (try clear hi); have hcz28_0 : w27.cell? ⟨gb114, 0, none⟩ = some (.int .u32 0) := (blk_cell BK114.out 0).trans rfl; have hcz28_1 : w27.cell? ⟨gb114, 1, none⟩ = some (.int .u32 0) := (blk_cell BK114.out 1).trans rfl; have hcz28_2 : w27.cell? ⟨gb114, 2, none⟩ = some (.int .u32 0) := (blk_cell BK114.out 2).trans rfl; have hcz28_3 : w27.cell? ⟨gb114, 3, none⟩ = some (.int .u32 0) := (blk_cell BK114.out 3).trans rfl; have hfz28_0 := blk_frozen BK114.out 0; have hfz28_1 := blk_frozen BK114.out 1; have hfz28_2 := blk_frozen BK114.out 2; have hfz28_3 := blk_frozen BK114.out 3))
        refine bodyPost_ret (results_cell_row rfl _ _ gb114 24 #[.int .u32 t131, .int .u32 t132, .int .u32 t133, .int .u32 t134] (0, 0) _ rfl (by (with_reducible repeat (first | refine blk_drewN ?_ _ | refine blk_drew ?_ | refine blk_alloc ?_ _)); refine blk_put (cs := #[.int .u32 t131, .int .u32 t132, .int .u32 t133, .int .u32 0]) ?_ 3 _ rfl; (with_reducible repeat (first | refine blk_drewN ?_ _ | refine blk_drew ?_ | refine blk_alloc ?_ _)); refine blk_put (cs := #[.int .u32 t131, .int .u32 t132, .int .u32 0, .int .u32 0]) ?_ 2 _ rfl; (with_reducible repeat (first | refine blk_drewN ?_ _ | refine blk_drew ?_ | refine blk_alloc ?_ _)); refine blk_put (cs := #[.int .u32 t131, .int .u32 0, .int .u32 0, .int .u32 0]) ?_ 1 _ rfl; (with_reducible repeat (first | refine blk_drewN ?_ _ | refine blk_drew ?_ | refine blk_alloc ?_ _)); refine blk_put (cs := #[.int .u32 0, .int .u32 0, .int .u32 0, .int .u32 0]) ?_ 0 _ rfl; (with_reducible repeat (first | refine blk_drewN ?_ _ | refine blk_drew ?_ | refine blk_alloc ?_ _)); exact BK114.out) Try.underlying24 rfl (by kernel_rfl)) rfl ?_
        exact ⟨by first | rfl | (simp [errW_none, errW_some] <;> rfl) | (simp [*, errW_none, errW_some] <;> rfl), by repeat (first | (with_reducible first | exact HB.out | apply below_alloc | apply pw_below_drewN | apply below_drew1 | refine below_set ?_ GE114.out | refine below_set ?_ GE115.out) | exact HB.out)⟩

/-! ### digest_Numbers: function 29 -/
def digest_Numbers.l0 : Nat → Int → List Int → List Int → Int → Int → Option (Int × Int × Int × Int)
  | 0, _, _, _, _, _ => none
  | k + 1, x0, x5, x8, x9, x10 => if x10 < x9 then (if 0 ≤ x10 then (if x10 < (x8.length : Int) then ((some (([(IntKind.u64.wrap (rd x8 x10)) % 4294967296, ((IntKind.u64.wrap (rd x8 x10)) / 4294967296) % 4294967296] : List Int) : List Int)).bind fun y137 => (if x5.length + y137.length < 35184372088832 then (digest_Numbers.l0 k x0 (x5 ++ y137) x8 x9 (wrap64 (x10 + 1))) else (none))) else (none)) else (none)) else ((digest_Words.f k x0 x5).bind fun bt143 => (some (bt143.1, bt143.2.1, bt143.2.2.1, bt143.2.2.2)))
def digest_Numbers.f (k : Nat) (a0 : Int) (l1 : List Int) : Option (Int × Int × Int × Int) := digest_Numbers.l0 k a0 ([] : List Int) l1 (l1.length : Int) 0
theorem digest_Numbers.mono_l : ∀ k, (∀ y0 y1 y2 y3 y4, LeO (digest_Numbers.l0 k y0 y1 y2 y3 y4) (digest_Numbers.l0 (k + 1) y0 y1 y2 y3 y4))
  | 0 => fun _ _ _ _ _ r h => by simp [digest_Numbers.l0] at h
  | k + 1 => by
    have ih0 := digest_Numbers.mono_l k
    · intro y0 y1 y2 y3 y4
      unfold digest_Numbers.l0
      repeat' first
      | (with_reducible exact ih0 _ _ _ _ _)
      | (with_reducible exact digest_Words.mono _ _ _)
      | (with_reducible exact LeO.refl _)
      | (with_reducible exact LeO.none _)
      | (with_reducible refine LeO.ite ?_ ?_)
      | (with_reducible refine LeO.bind ?_ (fun _ => ?_))
      | exact ih0 _ _ _ _ _
      | exact digest_Words.mono _ _ _
      | exact LeO.none _
      | refine LeO.ite ?_ ?_
      | refine LeO.bind ?_ (fun _ => ?_)
theorem digest_Numbers.mono : ∀ a0 a1 k, LeO (digest_Numbers.f k a0 a1) (digest_Numbers.f (k + 1) a0 a1) := by
  intro a0 a1 k
  have ih0 := digest_Numbers.mono_l k
  unfold digest_Numbers.f
  repeat' first
      | (with_reducible exact ih0 _ _ _ _ _)
      | (with_reducible exact digest_Words.mono _ _ _)
      | (with_reducible exact LeO.refl _)
      | (with_reducible exact LeO.none _)
      | (with_reducible refine LeO.ite ?_ ?_)
      | (with_reducible refine LeO.bind ?_ (fun _ => ?_))
      | exact ih0 _ _ _ _ _
      | exact digest_Words.mono _ _ _
      | exact LeO.none _
      | refine LeO.ite ?_ ?_
      | refine LeO.bind ?_ (fun _ => ?_)
set_option maxHeartbeats 8000000 in
set_option maxRecDepth 100000 in
theorem digest_Numbers.calls (k : Nat) (a0 : Int) (A1 : Option Addr) (c1 : Nat) (l1 : List Int) (r1 : Int) (r2 : Int) (r3 : Int) (r4 : Int) (w : World) (hr1 : Kd.C (Kd.int .i64) w A1 l1.length l1) (hc1 : l1.length ≤ c1) (h : digest_Numbers.f k a0 l1 = some (r1, r2, r3, r4)) :
    Calls Try.prog 29 #[.int .u32 a0, .slice A1 l1.length c1] w fun e w' => e = .returned (.agg #[.int .u32 r1, .int .u32 r2, .int .u32 r3, .int .u32 r4]) ∧ Below w.heap.size w w' := by
  have hu24 := Try.underlying24
  have HR1 := Aside0.mk hr1
  have HC1 := Aside0.mk hc1
  clear hr1 hc1
  have HB := Aside0.mk (Below.refl w.heap.size w)
  have H : (digest_Numbers.l0 k a0 ([] : List Int) l1 (l1.length : Int) 0) = some (r1, r2, r3, r4) := h
  clear h
  have H' := Aside0.mk H
  clear H
  go_enter Try.func29, Try.ntmps29
  go_wp2_with (first | ((with_reducible refine gate_dst (N := 4) rfl ?_); refine box_event ?hg (N := 4) ?hd (cs := #[.int .u32 0, .int .u32 0, .int .u32 0, .int .u32 0]) (t := 24) ?hr ?_; (case hd => rfl); (case hg => rfl); (case hr => first | (go_simp; done) | (go_simp; rfl)); intro gb135 hg w3 hbox hb; have n0_ := Aside0.mk (below_step (by repeat (first | (with_reducible first | exact HB.out | apply below_alloc | apply pw_below_drewN | apply below_drew1) | exact HB.out)) hb); have n1_ := Aside0.mk (hbox); have n2_ := Aside0.mk ((by rw [hg]; exact (below_size (by repeat (first | (with_reducible first | exact HB.out | apply below_alloc | apply pw_below_drewN | apply below_drew1) | exact HB.out))) : w.heap.size ≤ gb135)); have n3_ := Aside0.mk ((by rw [hg]; exact (below_size (by repeat (first | (with_reducible first | exact HB.out | apply below_alloc | apply pw_below_drewN | apply below_drew1) | exact HB.out))) : w.heap.size ≤ gb135)); clear HB; have HB := n0_; have BK135 := n1_; have GW135 := n2_; have GE135 := n3_; clear n0_ n1_ n2_ n3_; clear hb hbox hg))
  go_loopg [5, 10] k (fun kq v5 v10 w' => ∃ (x5_1 : List Int) (x10_1 : Int), v10 = .int .i64 x10_1 ∧ Aside0 (digest_Numbers.l0 kq a0 x5_1 l1 (l1.length : Int) x10_1 = some (r1, r2, r3, r4)) ∧ Aside0 (kq ≤ k) ∧ Aside0 (Kd.R (Kd.int .u32) 22 w' w.heap.size (fun _ => True) v5 x5_1) ∧ Aside0 (w'.heap[gb135]? = some (.cells #[.int .u32 0, .int .u32 0, .int .u32 0, .int .u32 0] 24 (0, 0))) ∧ Aside0 (Below w.heap.size w w'))
  case atStart => exact ⟨(([] : List Int)), (0), (by first | rfl | (simp; done) | (simp [*]; done)), H', ⟨Nat.le_refl _⟩, ⟨by first | exact Kd.R_nil _ _ _ _ _ | exact Kd.N_nil _ _ _ _ _ | exact Kd.V_nil _ _ _ _ _ | exact Kd.Q_nil _ _ _ _ _ | exact Kd.S_nil _ _ _ _ _⟩, ⟨by (with_reducible repeat (first | refine blk_drewN ?_ _ | refine blk_drew ?_ | refine blk_alloc ?_ _)); exact BK135.out⟩, ⟨by repeat (first | (with_reducible first | exact HB.out | apply below_alloc | apply pw_below_drewN | apply below_drew1 | refine below_set ?_ GE135.out) | exact HB.out)⟩⟩
  case round =>
    clear H'
    try clear c1
    try clear c2
    try clear p2
    obtain ⟨x5_1, x10_1, rfl, HA, HK1, HO_5, BK135, HB⟩ := hrel
    cases gk with
    | zero => exact absurd HA.out (by simp [digest_Numbers.l0])
    | succ k1 =>
      have H := HA.out
      clear HA
      simp only [digest_Numbers.l0] at H
      by_cases c4 : x10_1 < (l1.length : Int)
      · rw [if_pos c4] at H
        have c4b0 : decide (x10_1 < (l1.length : Int)) = true := decide_eq_true c4
        clear c4
        by_cases c5 : 0 ≤ x10_1
        · rw [if_pos c5] at H
          have c5b0 : decide (0 ≤ x10_1) = true := decide_eq_true c5
          clear c5
          by_cases c6 : x10_1 < (l1.length : Int)
          · rw [if_pos c6] at H
            have c6b0 : decide (x10_1 < (l1.length : Int)) = true := decide_eq_true c6
            clear c6
            obtain ⟨y137, hy137⟩ : ∃ y_ : List Int, y_ = (([(IntKind.u64.wrap (rd l1 x10_1)) % 4294967296, ((IntKind.u64.wrap (rd l1 x10_1)) / 4294967296) % 4294967296] : List Int)) := ⟨_, rfl⟩
            replace H : (if x5_1.length + y137.length < 35184372088832 then (digest_Numbers.l0 k1 a0 (x5_1 ++ y137) l1 (l1.length : Int) (wrap64 (x10_1 + 1))) else (none)) = some (r1, r2, r3, r4) := by first | (rw [hy137]; with_reducible exact H) | (have H2_ := (Option.bind_some _ _).symm.trans H; rw [hy137]; with_reducible exact H2_) | (have H2_ := (Option.bind_some _ _).symm.trans H; with_reducible exact H2_) | with_reducible exact H | (rw [hy137]; exact H) | exact H
            have Ny137 := Aside0.mk hy137
            clear hy137
            by_cases c7 : x5_1.length + y137.length < 35184372088832
            · rw [if_pos c7] at H
              have LMc7 := Aside0.mk c7
              clear c7
              obtain ⟨y140, hy140⟩ : ∃ y_ : List Int, y_ = (x5_1 ++ y137) := ⟨_, rfl⟩
              replace H : (digest_Numbers.l0 k1 a0 y140 l1 (l1.length : Int) (wrap64 (x10_1 + 1))) = some (r1, r2, r3, r4) := by first | (rw [hy140]; with_reducible exact H) | (have H2_ := (Option.bind_some _ _).symm.trans H; rw [hy140]; with_reducible exact H2_) | (have H2_ := (Option.bind_some _ _).symm.trans H; with_reducible exact H2_) | with_reducible exact H | (rw [hy140]; exact H) | exact H
              have Ny140 := Aside0.mk hy140
              clear hy140
              have H' := Aside0.mk H
              clear H
              have p136 : 0 ≤ (x10_1 : Int) := of_decide_eq_true (by first | (with_reducible assumption) | assumption)
              have q136 : x10_1 < (l1.length : Int) := of_decide_eq_true (by first | (with_reducible assumption) | assumption)
              obtain ⟨ad136, e136, hx136_0⟩ := Kd.at_int HR1.out x10_1 p136 q136
              cases e136
              replace hx136_0 := (HB.out.cell (World.block_lt_of_cell? w _ hx136_0)).trans hx136_0
              replace p136 := eq_true p136
              replace q136 := eq_true q136
              go_wp2_with (first | ((with_reducible refine gate_dst (N := 22) rfl ?_); refine Kd.R_lit (Kd.int .u32) _ 22 ?hg (N := 22) ?hd (xs := ([(IntKind.u64.wrap (rd l1 x10_1)) % 4294967296, ((IntKind.u64.wrap (rd l1 x10_1)) / 4294967296) % 4294967296] : List Int)) (inner := [.int .u32 ((IntKind.u64.wrap (rd l1 x10_1)) % 4294967296), .int .u32 (((IntKind.u64.wrap (rd l1 x10_1)) / 4294967296) % 4294967296)]) (ok := fun _ => True) (okp := fun _ => True) ?hr ?hp (fun _ hk => hk) trivial (Below.refl _ _) (Nat.le_refl _) (by simp) ?_; (case hd => rfl); (case hg => rfl); (case hr => first | (go_simp; done) | (go_simp; rfl)); (case hp => exact (Reps.one (show Kd.M (Kd.int .u32) _ _ _ ((IntKind.u64.wrap (rd l1 x10_1)) % 4294967296) [.int .u32 ((IntKind.u64.wrap (rd l1 x10_1)) % 4294967296)] from rfl) (Reps.one (show Kd.M (Kd.int .u32) _ _ _ (((IntKind.u64.wrap (rd l1 x10_1)) / 4294967296) % 4294967296) [.int .u32 (((IntKind.u64.wrap (rd l1 x10_1)) / 4294967296) % 4294967296)] from rfl) (Reps.none _ _)))); intro v138 w8 ho9 hb hg_ hnew_; clear hg_ hnew_; (first | rw [← Ny137.out] at ho9 | (simp only [Int.reduceToNat] at ho9; rw [← Ny137.out] at ho9)); have n0_ := Aside0.mk (Kd.R_elder' (by (with_reducible repeat (first | apply Kd.R_alloc | apply Kd.R_drewN | apply Kd.R_drew)); exact HO_5.out) (Kd.R_base ho9) hb); have n1_ := Aside0.mk (Kd.R_lower (Kd.R_new' ho9 (Kd.R_lt (by (with_reducible repeat (first | apply Kd.R_alloc | apply Kd.R_drewN | apply Kd.R_drew)); exact HO_5.out))) (below_size (by repeat (first | (with_reducible first | exact HB.out | apply below_alloc | apply pw_below_drewN | apply below_drew1 | refine below_set ?_ GE135.out) | exact HB.out)))); have n2_ := Aside0.mk (blk_below (g := gb135) (o := .cells #[.int .u32 0, .int .u32 0, .int .u32 0, .int .u32 0] 24 (0, 0)) (by (with_reducible repeat (first | refine blk_drewN ?_ _ | refine blk_drew ?_ | refine blk_alloc ?_ _)); exact BK135.out) hb); have n3_ := Aside0.mk (below_step (by repeat (first | (with_reducible first | exact HB.out | apply below_alloc | apply pw_below_drewN | apply below_drew1 | refine below_set ?_ GE135.out) | exact HB.out)) hb); clear HO_5; clear BK135; clear HB; have HO_5 := n0_; have HO139 := n1_; have BK135 := n2_; have HB := n3_; clear n0_ n1_ n2_ n3_; clear hb ho9; obtain ⟨Ao11, co11, eo11⟩ := Kd.R_slice HO139.out; subst eo11) | ((with_reducible refine gate_builtin (b := .append) (xs := #[.tmp 14, .tmp 22]) rfl ?_); at_builtin; refine Kd.R_append_rows (Kd.int .u32) (w0 := w) w.heap.size rfl (.tmp 14) (.tmp 22) 49 22 (.int .u32 0) 4 rfl Try.underlying49 info22 rfl (by decide) (by omega) u5 x5_1 y137 _ _ _ (fun k_ => some k_ ≠ (.slice Ao11 y137.length co11 : Value).ownBlock) (fun _ => False) rfl rfl ?aO ?aR (fun _ _ h => h) (fun _ h => h.elim) ?aF ?aB ?aS ?aL ?_; (case aR => repeat (first | exact (Kd.R_reads' HO139.out).2.2 | (with_reducible refine Kd.C_alloc ?_ _) | (with_reducible refine Kd.C_drewN ?_ _) | (with_reducible refine Kd.C_drew ?_))); (case aB => exact (by repeat (first | (with_reducible first | exact HB.out | apply below_alloc | apply pw_below_drewN | apply below_drew1 | refine below_set ?_ GE135.out) | exact HB.out))); (case aF => exact (fun k_ hk => Kd.fresh' (Kd.R_lt (by (with_reducible repeat (first | apply Kd.R_alloc | apply Kd.R_drewN | apply Kd.R_drew)); exact HO139.out)) k_ hk)); (case aO => exact (by (with_reducible repeat (first | apply Kd.R_alloc | apply Kd.R_drewN | apply Kd.R_drew)); exact Kd.R_mono HO_5.out (fun _ hk => hk.2))); (case aS => exact (below_size (by repeat (first | (with_reducible first | exact HB.out | apply below_alloc | apply pw_below_drewN | apply below_drew1 | refine below_set ?_ GE135.out) | exact HB.out)))); (case aL => have := LMc7.out; omega); intro v141 w10 ho hb hg hat; rw [← Ny140.out] at ho; have n0_ := Aside0.mk (blk_grown (g := gb135) (o := .cells #[.int .u32 0, .int .u32 0, .int .u32 0, .int .u32 0] 24 (0, 0)) (by (with_reducible repeat (first | refine blk_drewN ?_ _ | refine blk_drew ?_ | refine blk_alloc ?_ _)); exact BK135.out) hg (Kd.R_ne HO_5.out BK135.out (by decide))); have n1_ := Aside0.mk (Kd.R_after (ok := (fun _ => True)) (by (with_reducible repeat (first | apply Kd.R_alloc | apply Kd.R_drewN | apply Kd.R_drew)); exact HO139.out) hg hat); have n2_ := Aside0.mk (hb); have n3_ := Aside0.mk (ho); clear BK135; clear HO139; clear HB; clear HO_5; have BK135 := n0_; have HO139 := n1_; have HB := n2_; have HO142 := n3_; clear n0_ n1_ n2_ n3_; clear ho hb hg hat))
              go_roundg k1
              case measure => have := HK1.out; omega
              case rel => exact ⟨(y140), (wrap64 (x10_1 + 1)), (by first | rfl | (simp; done) | (simp [*]; done)), H', ⟨by have := HK1.out; omega⟩, ⟨by (with_reducible repeat (first | apply Kd.R_alloc | apply Kd.R_drewN | apply Kd.R_drew)); exact Kd.R_mono HO142.out (fun _ hk => trivial)⟩, ⟨by (with_reducible repeat (first | refine blk_drewN ?_ _ | refine blk_drew ?_ | refine blk_alloc ?_ _)); exact BK135.out⟩, ⟨by repeat (first | (with_reducible first | exact HB.out | apply below_alloc | apply pw_below_drewN | apply below_drew1 | refine below_set ?_ GE135.out) | exact HB.out)⟩⟩
            · rw [if_neg c7] at H
              exact absurd H (by simp)
          · rw [if_neg c6] at H
            exact absurd H (by simp)
        · rw [if_neg c5] at H
          exact absurd H (by simp)
      · rw [if_neg c4] at H
        have c4b0 : decide (x10_1 < (l1.length : Int)) = false := decide_eq_false c4
        clear c4
        replace H := Option.bind_eq_some_iff.mp H
        obtain ⟨⟨t143, t144, t145, t146⟩, A120, H⟩ := H
        replace H : (some (t143, t144, t145, t146)) = some (r1, r2, r3, r4) := H
        have A12 := Aside0.mk A120
        clear A120
        simp only [Option.some.injEq, Prod.mk.injEq] at H
        obtain ⟨rfl, rfl, rfl, rfl⟩ := H
        obtain ⟨Ao13, co13, eo13⟩ := Kd.R_slice HO_5.out
        subst eo13
        go_wp2_with (first | ((with_reducible refine gate_callee (f := 31) rfl ?_); refine goesL_ (some 27) rfl rfl Try.func31 (by kernel_rfl) rfl #[.int .u32 a0, .slice Ao13 x5_1.length co13] rfl (by (try simp only [List.map_toArray, List.map_cons, List.map_nil]); first | done | rfl | (simp only [List.length_drop, List.length_take]; rfl)) ?_; (with_reducible refine (digest_Words.calls k1 a0 _ _ x5_1 t143 t144 t145 t146 _ ?side1 ?side2 A12.out).mono ?_); (case side1 => repeat (first | exact (Kd.R_reads' HO_5.out).2.2 | (with_reducible refine Kd.C_alloc ?_ _) | (with_reducible refine Kd.C_drewN ?_ _) | (with_reducible refine Kd.C_drew ?_))); (case side2 => exact (Kd.R_reads' HO_5.out).2.1); rintro e w14 ⟨rfl, hb⟩; refine ⟨_, rfl, ?_⟩; have n0_ := Aside0.mk (Kd.R_below (by (with_reducible repeat (first | apply Kd.R_alloc | apply Kd.R_drewN | apply Kd.R_drew)); exact HO_5.out) hb); have n1_ := Aside0.mk (blk_below (g := gb135) (o := .cells #[.int .u32 0, .int .u32 0, .int .u32 0, .int .u32 0] 24 (0, 0)) (by (with_reducible repeat (first | refine blk_drewN ?_ _ | refine blk_drew ?_ | refine blk_alloc ?_ _)); exact BK135.out) hb); have n2_ := Aside0.mk (below_step (by repeat (first | (with_reducible first | exact HB.out | apply below_alloc | apply pw_below_drewN | apply below_drew1 | refine below_set ?_ GE135.out) | exact HB.out)) hb); clear HO_5; clear BK135; clear HB; have HO_5 := n0_; have BK135 := n1_; have HB := n2_; clear n0_ n1_ n2_; (try clear hb); (try clear hb2); (try clear hk); (try clear hi); have hcz15_0 : w14.cell? ⟨gb135, 0, none⟩ = some (.int .u32 0) := (blk_cell BK135.out 0).trans rfl; have hcz15_1 : w14.cell? ⟨gb135, 1, none⟩ = some (.int .u32 0) := (blk_cell BK135.out 1).trans rfl; have hcz15_2 : w14.cell? ⟨gb135, 2, none⟩ = some (.int .u32 0) := (blk_cell BK135.out 2).trans rfl; have hcz15_3 : w14.cell? ⟨gb135, 3, none⟩ = some (.int .u32 0) := (blk_cell BK135.out 3).trans rfl; have hfz15_0 := blk_frozen BK135.out 0; have hfz15_1 := blk_frozen BK135.out 1; have hfz15_2 := blk_frozen BK135.out 2; have hfz15_3 := blk_frozen BK135.out 3))
        refine bodyPost_ret (results_cell_row rfl _ _ gb135 24 #[.int .u32 t143, .int .u32 t144, .int .u32 t145, .int .u32 t146] (0, 0) _ rfl (by (with_reducible repeat (first | refine blk_drewN ?_ _ | refine blk_drew ?_ | refine blk_alloc ?_ _)); refine blk_put (cs := #[.int .u32 t143, .int .u32 t144, .int .u32 t145, .int .u32 0]) ?_ 3 _ rfl; (with_reducible repeat (first | refine blk_drewN ?_ _ | refine blk_drew ?_ | refine blk_alloc ?_ _)); refine blk_put (cs := #[.int .u32 t143, .int .u32 t144, .int .u32 0, .int .u32 0]) ?_ 2 _ rfl; (with_reducible repeat (first | refine blk_drewN ?_ _ | refine blk_drew ?_ | refine blk_alloc ?_ _)); refine blk_put (cs := #[.int .u32 t143, .int .u32 0, .int .u32 0, .int .u32 0]) ?_ 1 _ rfl; (with_reducible repeat (first | refine blk_drewN ?_ _ | refine blk_drew ?_ | refine blk_alloc ?_ _)); refine blk_put (cs := #[.int .u32 0, .int .u32 0, .int .u32 0, .int .u32 0]) ?_ 0 _ rfl; (with_reducible repeat (first | refine blk_drewN ?_ _ | refine blk_drew ?_ | refine blk_alloc ?_ _)); exact BK135.out) Try.underlying24 rfl (by kernel_rfl)) rfl ?_
        exact ⟨by first | rfl | (simp [errW_none, errW_some] <;> rfl) | (simp [*, errW_none, errW_some] <;> rfl), by repeat (first | (with_reducible first | exact HB.out | apply below_alloc | apply pw_below_drewN | apply below_drew1 | refine below_set ?_ GE135.out) | exact HB.out)⟩

end Go.Proofs.Ytijmmnlhbbmhlaa.XA
