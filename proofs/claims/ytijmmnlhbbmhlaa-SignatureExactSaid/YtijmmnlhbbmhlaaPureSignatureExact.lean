/-
  The pure statement of SignatureExact: the layer and its reference answer alike. Conditions: none beyond the row's own.
-/
import Derived.Test.YtijmmnlhbbmhlaaXEx7
import Derived.Test.YtijmmnlhbbmhlaaPairs
namespace Go.Proofs.Ytijmmnlhbbmhlaa.Pure
set_option linter.unusedVariables false
open Go.Proofs.Ytijmmnlhbbmhlaa.SigE Go.RowKit Go.Proofs.Ytijmmnlhbbmhlaa.Ix Go.Proofs.Ytijmmnlhbbmhlaa.XE Go.Proofs.YtijmmnlhbbmhlaaW.PrintWords Go.Proofs.YtijmmnlhbbmhlaaW.PrintLast Go.Proofs.YtijmmnlhbbmhlaaW.PrintMore

theorem SignatureExact : awardingbodylaw41_SignatureExact.Pure := by
  intro x n s d0 d1 d2 d3 r4 s4 hx hn hs u0 u1 u2 u3 hr hs4
  have m0 := mod_f s 1073741788 (wf64 hs) (by decide) (by decide)
  have m1 := mod_f x 2147483579 (wf64 hx) (by decide) (by decide)
  have m2 := mod_f n 1099511627776 (wf64 hn) (by decide) (by decide)
  have m3 := mod_f x 9 (wf64 hx) (by decide) (by decide)
  have m4 := mod_f n 9 (wf64 hn) (by decide) (by decide)
  have hx' := wf64 hx
  have hn' := wf64 hn
  have hs' := wf64 hs
  have hs4' := wf64 hs4
  obtain ⟨key, ekey⟩ : ∃ z, z = wrap64 (1 + s % 1073741788) := ⟨_, rfl⟩
  obtain ⟨p1, e1, -, hp⟩ := public_pair s
  obtain ⟨a1, a2, a3, K1, h1⟩ := sign_pair s d0 d1 d2 d3
  obtain ⟨b1, b2, b3, K2, h2⟩ := sign_pair key d0 d1 d2 d3
  obtain ⟨P, E, -, hP⟩ := public_pair key
  obtain ⟨w1, -, -, hw1⟩ := power_pair x n hn'.2
  obtain ⟨w2, -, -, hw2⟩ := power_pair (x % 2147483579) (n % 1099511627776) (by omega)
  obtain ⟨w3, -, -, hw3⟩ := power_pair (x % 9) (n % 9) (by omega)
  obtain ⟨c1, -, -, K3, hc1⟩ := chal_pair x n d0 d1 d2 d3
  obtain ⟨c2, -, -, K4, hc2⟩ := chal_pair (x % 2147483579) (n % 1099511627776) d0 d1 d2 d3
  obtain ⟨c3, -, -, K5, hc3⟩ := chal_pair (x % 9) (n % 9) d0 d1 d2 d3
  obtain ⟨v1, K6, hv1⟩ := verify_pair P d0 d1 d2 d3 r4 s4 hs4'.2
  obtain ⟨v2, K7, hv2⟩ := verify_pair x d0 d1 d2 d3 r4 s4 hs4'.2
  have hb2 := (h2 K2 (Nat.le_refl _)).2.2.2
  obtain ⟨v3, K8, hv3⟩ := verify_pair x d0 d1 d2 d3 b1 b2 hb2
  obtain ⟨K9, h9⟩ := sane_ev
  obtain ⟨M, hM⟩ : ∃ M, M = K1 + K2 + K3 + K4 + K5 + K6 + K7 + K8 + K9 + 200 := ⟨_, rfl⟩
  have e : ∀ k, M ≤ k → awardingbodylaw41_SignatureExact.l0 (k + 1) x key 3 d0 d1 d2 d3 r4 s4 b1 b2 x n (x % 2147483579) (n % 1099511627776) (x % 9) (n % 9) = some true := by
    intro k hk
    simp only [awardingbodylaw41_SignatureExact.l0]
    have s9 : awardingbodylaw41_sane.f k = some true := h9 k (by omega)
    rw [if_neg (by omega), (hP k (by omega)).2, Option.bind_some, (hv1 k (by omega)).1, Option.bind_some, (hv1 k (by omega)).2, Option.bind_some, if_pos (by simp), (hv2 k (by omega)).1, Option.bind_some, (hv2 k (by omega)).2, Option.bind_some, if_pos (by simp),
      (hv3 k (by omega)).1, Option.bind_some, (hv3 k (by omega)).2, Option.bind_some, if_pos (by simp), s9, Option.bind_some]
  have st : ∀ (k : Nat) (i i' X N w c : Int), M ≤ k → 0 ≤ i → i < 3 → i' = i + 1 → ix3 i x (x % 2147483579) (x % 9) = X → ix3 i n (n % 1099511627776) (n % 9) = N → signature_Power.f (k + 1) X N = some w ∧ awardingbodyref41_Power.f (k + 1) X N = some w → signature_Challenge.f (k + 1) X N d0 d1 d2 d3 = some c ∧ awardingbodyref41_Challenge.f (k + 1) X N d0 d1 d2 d3 = some c →
      awardingbodylaw41_SignatureExact.l0 (k + 1 + 1) x key i d0 d1 d2 d3 r4 s4 b1 b2 x n (x % 2147483579) (n % 1099511627776) (x % 9) (n % 9) = awardingbodylaw41_SignatureExact.l0 k x key i' d0 d1 d2 d3 r4 s4 b1 b2 x n (x % 2147483579) (n % 1099511627776) (x % 9) (n % 9) := by
    intro k i i' X N w c hk h0 h3 hi eX eN hp hc
    rw [awardingbodylaw41_SignatureExact.l0, if_pos h3, if_pos h0, eX, eN, hp.1, Option.bind_some, hp.2, Option.bind_some, if_pos (by rfl), hc.1, Option.bind_some, hc.2, Option.bind_some, bne_self_eq_false, awardingbodylaw41_SignatureExact.j2, if_neg (by simp), w64 (by omega) (by omega), ← hi]
  have l : awardingbodylaw41_SignatureExact.l0 (M + 1 + 1 + 1 + 1 + 1 + 1 + 1) x key 0 d0 d1 d2 d3 r4 s4 b1 b2 x n (x % 2147483579) (n % 1099511627776) (x % 9) (n % 9) = some true := by
    rw [st _ 0 1 _ _ w1 c1 (by omega) (by omega) (by omega) rfl rfl rfl (hw1 _ (by omega)) (hc1 _ (by omega)),
      st _ 1 2 _ _ w2 c2 (by omega) (by omega) (by omega) rfl rfl rfl (hw2 _ (by omega)) (hc2 _ (by omega)),
      st _ 2 3 _ _ w3 c3 (by omega) (by omega) (by omega) rfl rfl rfl (hw3 _ (by omega)) (hc3 _ (by omega)), e M (Nat.le_refl _)]
  have j : awardingbodylaw41_SignatureExact.j0 (M + 1 + 1 + 1 + 1 + 1 + 1 + 1 + 1) x n key false d0 d1 d2 d3 r4 s4 b1 b2 = some true := by
    rw [awardingbodylaw41_SignatureExact.j0, if_neg (by simp), m1, Option.bind_some, m2, Option.bind_some, m3, Option.bind_some, m4, Option.bind_some, l]
  refine ⟨M + 1 + 1 + 1 + 1 + 1 + 1 + 1 + 1, ?_⟩
  unfold awardingbodylaw41_SignatureExact.f
  rw [m0, Option.bind_some, ← ekey, (hp _ (by omega)).1, Option.bind_some, (hp _ (by omega)).2, Option.bind_some, (h1 _ (by omega)).1, Option.bind_some, (h1 _ (by omega)).2.1, Option.bind_some, (h2 _ (by omega)).1, Option.bind_some, (h2 _ (by omega)).2.1, Option.bind_some]
  rw [if_pos (by rfl), if_pos (by rfl), if_neg (by simp), if_pos (by rfl), if_neg (by simp), if_pos (by rfl), valid_sig, valid_ref, Option.bind_some, Option.bind_some, bne_self_eq_false, j]
end Go.Proofs.Ytijmmnlhbbmhlaa.Pure
