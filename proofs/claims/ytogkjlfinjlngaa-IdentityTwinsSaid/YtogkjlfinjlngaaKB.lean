/-
  A row of bytes that '[]byte(s)' makes, held by the call that made it: as a row of the call's own, but its block bears the conversion's mark behind the last cell.
  Conditions: those in each lemma's statement. The names follow those of the print's words, so that a printed text may use these in their stead.
-/
import Derived.Test.YtogkjlfinjlngaaWWords
import Derived.Test.YtogkjlfinjlngaaWMore
import Derived.Test.YtogkjlfinjlngaaWLast
import Derived.Lib.ConvBytes
namespace Go.Proofs.Ytogkjlfinjlngaa.KB
set_option linter.unusedVariables false
open Go.RowKit Go.Proofs.YtogkjlfinjlngaaW.PrintWords Go.Proofs.YtogkjlfinjlngaaW.PrintLast Go.Proofs.YtogkjlfinjlngaaW.PrintMore

def R (d : Kd Int) (e : Nat) (w : World) (base : Nat) (ok : Nat → Prop) (v : Value) (xs : List Int) : Prop :=
  (∀ k, v.ownBlock = some k → ok k) ∧ ∃ g cap cur lo hi, v = .slice (some ⟨g, 0, none⟩) xs.length cap ∧ base ≤ g ∧ w.heap[g]? = some (.cells cur e (lo, hi)) ∧ xs.length ≤ cap ∧ xs.length ≤ 9223372036854775807 ∧ xs.length ≤ lo ∧
    ∀ j, j < xs.length → cur[j]? = some (.int .u8 (xs.getD j 0))
variable {d : Kd Int} {e : Nat} {w w1 : World} {base : Nat} {ok ok' : Nat → Prop} {v : Value} {xs : List Int}
theorem R_mono (h : R d e w base ok v xs) (hok : ∀ k, ok k → ok' k) : R d e w base ok' v xs := ⟨fun k hk => hok k (h.1 k hk), h.2⟩
theorem R_step (h : R d e w base ok v xs) (hm : ∀ k, ok k → k < w.heap.size → w1.heap[k]? = w.heap[k]?) : R d e w1 base ok v xs := by
  obtain ⟨h0, g, cap, cur, lo, hi, rfl, hb, hg, hr⟩ := h
  exact ⟨h0, g, cap, cur, lo, hi, rfl, hb, by rw [hm g (h0 g rfl) (Array.getElem?_eq_some_iff.1 hg).1]; exact hg, hr⟩
theorem R_below (h : R d e w base ok v xs) (hb : Below w.heap.size w w1) : R d e w1 base ok v xs := R_step h (fun k _ hk => hb.block k hk)
theorem R_alloc (h : R d e w base ok v xs) (o : Obj) : R d e (w.alloc o) base ok v xs := R_below h (below_alloc (Below.refl _ _) o)
theorem R_drew (h : R d e w base ok v xs) : R d e w.drew base ok v xs := R_below h (below_drew (Below.refl _ _))
theorem R_drewN (h : R d e w base ok v xs) (m : Nat) : R d e (w.drewN m) base ok v xs := R_below h (pw_below_drewN (Below.refl _ _) m)
theorem R_far (h : R d e w base ok v xs) {p : Addr} (hok : ∀ k, ok k → k ≠ p.block) (u : Value) : R d e (w.setCell p u) base ok v xs := R_step h (fun k ho _ => Below.heap_setCell w p u k (hok k ho))
theorem R_lower {base' : Nat} (h : R d e w base ok v xs) (hb : base' ≤ base) : R d e w base' ok v xs := by
  obtain ⟨h0, g, cap, cur, lo, hi, rfl, hb', hg, hr⟩ := h
  exact ⟨h0, g, cap, cur, lo, hi, rfl, Nat.le_trans hb hb', hg, hr⟩
theorem R_types (h : R d e w base ok v xs) {g t : Nat} {cells : Array Value} (hb : w.heap[g]? = some (.cells cells t (0, 0))) (ht : ∀ q, q ∈ e :: [] → q ≠ t) : R d e w base (fun k => ok k ∧ k ≠ g) v xs := by
  obtain ⟨h0, g', cap, cur, lo, hi, rfl, hb', hg, hr⟩ := h
  refine ⟨fun k hk => ⟨h0 k hk, ?_⟩, g', cap, cur, lo, hi, rfl, hb', hg, hr⟩
  have : g' = k := by simpa [Value.ownBlock] using hk
  subst this
  rintro rfl
  rw [hg] at hb
  injection hb with hb
  injection hb with _ hb _
  exact ht e (List.mem_cons_self ..) hb
theorem R_slice (h : R d e w base ok v xs) : ∃ A c, v = .slice A xs.length c := by
  obtain ⟨h0, g, cap, cur, lo, hi, rfl, _⟩ := h
  exact ⟨_, _, rfl⟩
theorem cell_of {g : Nat} {cur : Array Value} {t : TypeId} {fz : Nat × Nat} (hg : w.heap[g]? = some (.cells cur t fz)) (j : Nat) (u : Value) (hu : cur[j]? = some u) : w.cell? ⟨g, j, none⟩ = some u := by
  simp [World.cell?, hg, hu]
theorem R_reads' {A : Option Addr} {n c : Nat} (h : R d e w base ok (.slice A n c) xs) : n = xs.length ∧ n ≤ c ∧ (Kd.int .u8).C w A xs.length xs := by
  obtain ⟨h0, g, cap, cur, lo, hi, hv, hb, hg, hc, hm, hlo, hr⟩ := h
  injection hv with h1 h2 h3
  subst h1 h2 h3
  refine ⟨rfl, hc, Kd.C_of_reads (d := (0 : Int)) (h1 := fun _ => rfl) ⟨rfl, hm, fun _ => ⟨_, rfl, fun j hj => ?_⟩⟩⟩
  rw [add_plain]
  exact cell_of hg j _ (hr j hj)
theorem R_form (h : R d e w base ok v xs) (hp : 0 < xs.length) : ∃ g cap, v = .slice (some ⟨g, 0, none⟩) xs.length cap ∧ base ≤ g ∧ g < w.heap.size ∧ ∃ cells fz, w.heap[g]? = some (.cells cells e fz) := by
  obtain ⟨h0, g, cap, cur, lo, hi, rfl, hb, hg, _⟩ := h
  exact ⟨g, cap, rfl, hb, (Array.getElem?_eq_some_iff.1 hg).1, cur, (lo, hi), hg⟩
theorem R_celln {g n cap : Nat} (z : Int) (h : R d e w base ok (.slice (some ⟨g, 0, none⟩) n cap) xs) (i : Int) (h0 : 0 ≤ i) (hi : i < n) : w.cell? ⟨g, i.toNat, none⟩ = some (.int .u8 (rd xs i)) ∧ w.frozen? ⟨g, i.toNat, none⟩ = false := by
  obtain ⟨h0', g', cap', cur, lo, hi', hv, hb, hg, hc, hm, hlo, hr⟩ := h
  injection hv with h1 h2 h3
  injection h1 with h1
  injection h1 with h1
  subst h1 h2 h3
  refine ⟨cell_of hg _ _ (hr _ (by omega)), ?_⟩
  simp only [World.frozen?, hg]
  have : ¬ lo ≤ i.toNat := by omega
  simp [this]
theorem R_putn {g n cap : Nat} (h : R d e w base ok (.slice (some ⟨g, 0, none⟩) n cap) xs) (i : Int) (x : Int) : R d e (w.setCell ⟨g, i.toNat, none⟩ (.int .u8 x)) base ok (.slice (some ⟨g, 0, none⟩) n cap) (xs.set i.toNat x) := by
  obtain ⟨h0', g', cap', cur, lo, hi', hv, hb, hg, hc, hm, hlo, hr⟩ := h
  injection hv with h1 h2 h3
  injection h1 with h1
  injection h1 with h1
  subst h1 h2 h3
  refine ⟨h0', g, cap, cur.setIfInBounds i.toNat (.int .u8 x), lo, hi', by rw [List.length_set], hb, ?_, by rw [List.length_set]; exact hc, by rw [List.length_set]; exact hm, by rw [List.length_set]; exact hlo, ?_⟩
  · rw [setCell_eq_setRow w g i.toNat cur e (lo, hi') _ hg]
    exact setRow_heap w g cur _ e _ hg
  · intro j hj
    rw [List.length_set] at hj
    by_cases hij : i.toNat = j
    · subst hij
      have hs : i.toNat < cur.size := (Array.getElem?_eq_some_iff.1 (hr _ hj)).1
      rw [Array.getElem?_setIfInBounds_self_of_lt hs]
      simp [List.getD_eq_getElem?_getD, hj]
    · rw [Array.getElem?_setIfInBounds_ne hij, hr j hj]
      simp [List.getD_eq_getElem?_getD, List.getElem?_set_ne hij]
theorem R_putg {g n cap : Nat} (h : R d e w base ok (.slice (some ⟨g, 0, none⟩) n cap) xs) (i : Int) (x : Int) : R d e (w.setCell ⟨g, i.toNat, none⟩ (.int .u8 x)) base ok (.slice (some ⟨g, 0, none⟩) n cap) (xs.set i.toNat x) ∧ w.grownBy (w.setCell ⟨g, i.toNat, none⟩ (.int .u8 x)) (some g) :=
  ⟨R_putn h i x, rfl, rfl, rfl, by simp [World.setCell], fun k hk hne => Below.heap_setCell w _ _ k (fun e_ => hne (by rw [e_]))⟩
theorem own_string {P : Program} {src dst : TypeId} (hs : P.underlying src = some (.slice e)) (he : P.underlying e = some (.int .u8)) (hd : P.underlying dst = some .string)
    (h : R d e w base ok v xs) : (convert src dst v).run P w = .ok (.string (strOfNums xs)) w := by
  obtain ⟨h0, g, cap, cur, lo, hi, rfl, hb, hg, hc, hm, hlo, hr⟩ := h
  refine run_convert_bytes_arg w src e hs he g 0 xs.length cap xs rfl (fun i hi => ?_) dst hd
  rw [Nat.zero_add]
  exact cell_of hg i _ (hr i hi)
section
variable {P : Program} {ops : Array Oper} {rest : List Oper} {o : Oper} {a : Act} {Q : Exit → Act → World → Prop}
theorem R_new (W : World) (e : Nat) (s : ByteArray) (hl : s.size ≤ 9223372036854775807) (hbase : base ≤ W.heap.size) (hfresh : ok W.heap.size) : R (Kd.int .u8) e (Lib.bytesWorld W e s) base ok (.slice (some ⟨W.heap.size, 0, none⟩) s.size (grownCap W s.size 0 e)) (bytesOf s) := by
  have hlen : (bytesOf s).length = s.size := bytesOf_length s
  refine ⟨fun k hk => ?_, W.heap.size, grownCap W s.size 0 e, Lib.bytesCells W e s, _, _, by rw [hlen], hbase, Lib.bytesWorld_at_new W e s, by rw [hlen]; exact grownCap_ge W s.size 0 e, by rw [hlen]; exact hl, ?_, ?_⟩
  · have : W.heap.size = k := by simpa [Value.ownBlock] using hk
    subst this
    exact hfresh
  · rw [hlen]
    simp [Lib.bytesCells]
  · intro j hj
    rw [hlen] at hj
    have h' : j < s.data.toList.length := by rw [data_length]; exact hj
    have := Lib.bytesWorld_cell W e s j hj
    simp [World.cell?, Lib.bytesWorld_at_new] at this
    rw [this]
    have hj' : j < s.data.size := hj
    simp [bytesOf, List.getD_eq_getElem?_getD, List.getElem?_eq_getElem h']
    rw [Array.getElem?_eq_getElem hj']; rfl
theorem R_bytes {w0 W : World} (base e : Nat) (hgd : o.guard = none) {N : Tmp} (_hd : o.dst = some N) (src dst : TypeId) (x : Operand) (ho : o.op = .convert src dst x) (s : ByteArray) (hx : a.eval x = .string s) {u : TypeDesc}
    (hs : P.underlying src = some u) (hds : P.underlying dst = some (.slice e)) (he : P.underlying e = some (.int .u8)) {ok : Nat → Prop} (hfresh : ok W.heap.size) (hl : s.size ≤ 9223372036854775807) (HB : Below base w0 W) (hbase : base ≤ W.heap.size)
    (h : ∀ v1 w1, R (Kd.int .u8) e w1 base ok v1 (bytesOf s) → Below base w0 w1 → W.grownBy w1 none → (∃ b, v1.ownBlock = some b ∧ W.heap.size ≤ b) → wpList P ops Q rest (a.put o.dst v1) w1) : wpList P ops Q (o :: rest) a W := by
  refine Kd.event_run hgd (v := .slice (some ⟨W.heap.size, 0, none⟩) s.size (grownCap W s.size 0 e)) (w1 := Lib.bytesWorld W e s) ?_ (h _ _ (R_new W e s hl hbase hfresh) ?_ ?_ ⟨W.heap.size, by simp [Value.ownBlock], Nat.le_refl _⟩)
  · simp [execOp, ho, hx, print_bytes src dst e hs hds he s W]
  · exact HB.trans ⟨rfl, rfl, rfl, by rw [Lib.bytesWorld_size]; omega, fun i hi => Lib.bytesWorld_at_old W e s i (by omega)⟩
  · exact ⟨rfl, rfl, rfl, by rw [Lib.bytesWorld_size]; omega, fun k hk _ => Lib.bytesWorld_at_old W e s k hk⟩
end
end Go.Proofs.Ytogkjlfinjlngaa.KB
