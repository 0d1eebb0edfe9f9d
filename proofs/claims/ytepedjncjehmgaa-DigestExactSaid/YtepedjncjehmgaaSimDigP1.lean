/- digest.Text and strings.IndexByte: their contracts, as the small machine wants them. No conditions. -/
import Derived.Test.YtepedjncjehmgaaSimB2
import Derived.Test.YtepedjncjehmgaaTx
namespace Go.Proofs.Ytepedjncjehmgaa.Sim
set_option linter.unusedSimpArgs false
set_option linter.unusedVariables false
open Go Go.RowKit

theorem two_vals {vals : Array Value} {n : Nat} (h : n = vals.size) (hn : n = 2) : ∃ v0 v1, vals = #[v0, v1] := by
  rcases vals with ⟨l⟩
  subst hn
  match l, h with
  | [v0, v1], _ => exact ⟨v0, v1, rfl⟩
theorem one_val {vals : Array Value} {n : Nat} (h : n = vals.size) (hn : n = 1) : ∃ v0, vals = #[v0] := by
  rcases vals with ⟨l⟩
  subst hn
  match l, h with
  | [v0], _ => exact ⟨v0, rfl⟩

theorem prim_indexByte (k : Lnk) : PrimOk Try.prog k pIndexByte 25 := by
  intro args r h c base vals hr hl hv
  unfold pIndexByte at h
  split at h
  · rename_i s b
    simp only [Option.some.injEq] at h
    subst h
    obtain ⟨v0, v1, rfl⟩ := two_vals hl rfl
    obtain ⟨s', rfl, hs⟩ := (FR.r _ _ (hv 0 _ v0 rfl rfl)).str
    obtain rfl := (FR.r _ _ (hv 1 _ v1 rfl rfl)).int
    subst hs
    refine prim_below hr ((Try.strings_IndexByte s' b c.w).mono ?_) (fun w' => .d _ _ (.int _ _))
    rintro e w' ⟨rfl, rfl⟩
    exact ⟨rfl, Below.refl _ _⟩
  · cases h

theorem nib_eq (x : Int) (h : okW x = true) (m : Nat) (hm : m < 8) : Bu.nib x (4 * (m : Int)) = (nibS x m : Int) := by
  simp only [okW, decide_eq_true_eq] at h
  obtain ⟨n, rfl⟩ : ∃ n : Nat, x = n := ⟨x.toNat, by omega⟩
  unfold Bu.nib nibS Go.bits
  have h1 : (4 * (m : Int)).toNat = 4 * m := by omega
  have h2 : min (4 * m) 32 = 4 * m := by omega
  rw [h1, h2]
  have h3 : (n : Int) / 2 ^ (4 * m) = ((n / 16 ^ m : Nat) : Int) := by
    rw [show (2 : Int) ^ (4 * m) = ((16 ^ m : Nat) : Int) by rw [Int.pow_mul]; simp]
    rfl
  rw [h3]
  simp only [IntKind.wrap_u32, BitVec.toNat_and, Int.toNat_natCast]
  have h5 : n / 16 ^ m ≤ n := Nat.div_le_self _ _
  have e : (BitVec.ofInt IntKind.u32.bits ((n / 16 ^ m : Nat) : Int)).toNat = n / 16 ^ m := by
    show (BitVec.ofInt 32 ((n / 16 ^ m : Nat) : Int)).toNat = n / 16 ^ m
    rw [BitVec.toNat_ofInt]
    have h6 : ((n / 16 ^ m : Nat) : Int) < 4294967296 := by omega
    show (((n / 16 ^ m : Nat) : Int) % 4294967296).toNat = n / 16 ^ m
    rw [Int.emod_eq_of_lt (Int.natCast_nonneg _) h6]
    rfl
  have e15 : (BitVec.ofInt IntKind.u32.bits 15).toNat = 15 := by decide
  rw [e, e15, show (15 : Nat) = 2 ^ 4 - 1 from rfl, Nat.and_two_pow_sub_one_eq_mod]
  have h7 : n / 16 ^ m % 2 ^ 4 < 16 := Nat.mod_lt _ (by decide)
  omega

theorem hexr_eq (x : Int) (h : okW x = true) : ∀ m, m ≤ 8 → Bu.hexr x m = hexW x m
  | 0, _ => rfl
  | m + 1, hm => by
    simp only [Bu.hexr, hexW]
    rw [hexr_eq x h m (by omega), Bu.dg, nib_eq x h m (by omega)]
    congr 1
    have : ∀ q < 16, UInt8.ofNat (YtepedjncjehmgaaW.PrintWords.bt Bu.HX ((q : Nat) : Int)).toNat = hx.getD q 0 := by decide +kernel
    exact this _ (Nat.mod_lt _ (by decide))

theorem prim_text (k : Lnk) : PrimOk Try.prog k pText 7 := by
  intro args r h c base vals hr hl hv
  unfold pText at h
  split at h
  · rename_i a b d e
    split at h
    · rename_i ho
      simp only [Bool.and_eq_true] at ho
      simp only [Option.some.injEq] at h
      subst h
      obtain ⟨v0, rfl⟩ := one_val hl rfl
      obtain ⟨vs, rfl, hn, hc⟩ := (FR.r _ _ (hv 0 _ v0 rfl rfl)).agg
      obtain ⟨u0, u1, u2, u3, rfl⟩ : ∃ u0 u1 u2 u3, vs = #[u0, u1, u2, u3] := by
        rcases vs with ⟨l⟩
        match l, hn with
        | [u0, u1, u2, u3], _ => exact ⟨u0, u1, u2, u3, rfl⟩
      obtain rfl := (FR.r _ _ (hc 0 _ u0 rfl rfl)).int
      obtain rfl := (FR.r _ _ (hc 1 _ u1 rfl rfl)).int
      obtain rfl := (FR.r _ _ (hc 2 _ u2 rfl rfl)).int
      obtain rfl := (FR.r _ _ (hc 3 _ u3 rfl rfl)).int
      refine prim_below (val := .string ⟨(Bu.hexs a b d e).toArray⟩) hr ((Bu.text_calls a b d e c.w).mono ?_) (fun w' => .d _ _ (.str _ _ ?_))
      · rintro e' w' ⟨rfl, hb⟩
        exact ⟨rfl, hb⟩
      · simp only [Bu.hexs, hexr_eq _ ho.1.1.1 8 (Nat.le_refl _), hexr_eq _ ho.1.1.2 8 (Nat.le_refl _), hexr_eq _ ho.1.2 8 (Nat.le_refl _), hexr_eq _ ho.2 8 (Nat.le_refl _)]
    · cases h
  · cases h
end Go.Proofs.Ytepedjncjehmgaa.Sim
