/-
For all numbers, both functions return what the reference implementation returns. For every three ints, without conditions.
-/
import Derived.Test.YtihfcnhiknljpaaQx4
import Derived.Test.YtihfcnhiknljpaaQx2
import Derived.Test.YtihfcnhiknljpaaQx3
import Derived.Test.YtihfcnhiknljpaaBphases
namespace Go.Proofs.Ytihfcnhiknljpaa.Pure
open Go.RowKit Go.Proofs.Ytihfcnhiknljpaa.Q Go.Proofs.YtihfcnhiknljpaaW.PrintWords Go.Proofs.YtihfcnhiknljpaaW.PrintLast Go.Proofs.YtihfcnhiknljpaaW.PrintMore Go.Proofs.Ytihfcnhiknljpaa.Basephases

theorem mx_eq (a b : Int) : mx a b = max a b := by unfold mx; omega
theorem cur_eq (a : Int) : chargeparkref05_Current.f a = some (isCur a) := by
  unfold chargeparkref05_Current.f isCur
  by_cases h : a ≥ 0
  · rw [if_pos h]; simp [h]
  · rw [if_neg h]; simp; omega
theorem sq_bd {a b : Int} (ha : 0 ≤ a ∧ a ≤ 1000) (hb : 0 ≤ b ∧ b ≤ 1000) : 0 ≤ a * b ∧ a * b ≤ 1000000 :=
  ⟨Int.mul_nonneg ha.1 hb.1, by have := Int.mul_le_mul ha.2 hb.2 hb.1 (by omega); omega⟩
theorem square_eq {a b c : Int} (ha : 0 ≤ a ∧ a ≤ 1000) (hb : 0 ≤ b ∧ b ≤ 1000) (hc : 0 ≤ c ∧ c ≤ 1000) : chargeparkref05_Square.f a b c = some (a * a + b * b + c * c - a * b - b * c - c * a) := by
  have haa := sq_bd ha ha
  have hbb := sq_bd hb hb
  have hcc := sq_bd hc hc
  have hab := sq_bd ha hb
  have hbc := sq_bd hb hc
  have hca := sq_bd hc ha
  unfold chargeparkref05_Square.f
  rw [hb_wrap64 (a * a) (by omega) (by omega), hb_wrap64 (b * b) (by omega) (by omega), hb_wrap64 (c * c) (by omega) (by omega), hb_wrap64 (a * b) (by omega) (by omega), hb_wrap64 (b * c) (by omega) (by omega), hb_wrap64 (c * a) (by omega) (by omega)]
  rw [hb_wrap64 (a * a + b * b) (by omega) (by omega), hb_wrap64 (a * a + b * b + c * c) (by omega) (by omega), hb_wrap64 (a * a + b * b + c * c - a * b) (by omega) (by omega), hb_wrap64 (a * a + b * b + c * c - a * b - b * c) (by omega) (by omega), hb_wrap64 (a * a + b * b + c * c - a * b - b * c - c * a) (by omega) (by omega)]
theorem ref_loop {a b c : Int} (ha : 0 ≤ a ∧ a ≤ 1000) (hb : 0 ≤ b ∧ b ≤ 1000) (hc : 0 ≤ c ∧ c ≤ 1000) (d : Nat) :
    ∀ (k : Nat) (i : Int), 0 ≤ i → i + d = nn (qOf a b c) → d < k → chargeparkref05_Neutral.l0 k a b c i = some (nn (qOf a b c), 0) := by
  obtain ⟨n0, n1, n2, n3⟩ := nn_spec (q_small ha hb hc)
  have hq := qOf_eq a b c
  have hs := square_eq ha hb hc
  generalize nn (qOf a b c) = n at *
  induction d with
  | zero =>
    intro k i h0 h1 hk
    obtain ⟨k, rfl⟩ : ∃ m, k = m + 1 := ⟨k - 1, by omega⟩
    obtain rfl : i = n := by omega
    simp only [chargeparkref05_Neutral.l0]
    have hii := sq_bd ⟨h0, n1⟩ ⟨h0, n1⟩
    rw [hs, hb_wrap64 (i * i) (by omega) (by omega)]
    simp only [Option.bind_some]
    rw [if_neg (by omega)]
  | succ d ih =>
    intro k i h0 h1 hk
    obtain ⟨k, rfl⟩ : ∃ m, k = m + 1 := ⟨k - 1, by omega⟩
    simp only [chargeparkref05_Neutral.l0]
    have hii := sq_bd (a := i) (b := i) (by omega) (by omega)
    rw [hs, hb_wrap64 (i * i) (by omega) (by omega), hb_wrap64 (i + 1) (by omega) (by omega)]
    simp only [Option.bind_some]
    have h3 := n3 (by omega)
    have := mul_mono h0 (show i ≤ n - 1 by omega)
    rw [if_pos (by omega)]
    exact ih k (i + 1) (by omega) (by omega) (by omega)
theorem three (a b c : Int) : (isCur a && isCur b && isCur c) = true → (0 ≤ a ∧ a ≤ 1000) ∧ (0 ≤ b ∧ b ≤ 1000) ∧ (0 ≤ c ∧ c ≤ 1000) := by
  unfold isCur; simp only [Bool.and_eq_true, decide_eq_true_eq]; exact fun h => ⟨h.1.1, h.1.2, h.2⟩
theorem ref_eq (a b c : Int) : chargeparkref05_Neutral.f 1005 a b c = phases_Neutral.f a b c := by
  unfold chargeparkref05_Neutral.f phases_Neutral.f
  rw [cur_eq, cur_eq, cur_eq]
  simp only [Option.bind_some]
  cases ha : isCur a <;> cases hb : isCur b <;> cases hc : isCur c <;> simp only [chargeparkref05_Neutral.j0, Bool.not_false, Bool.not_true, Bool.and_true, Bool.and_false, Bool.false_eq_true, if_true, if_false]
  obtain ⟨h1, h2, h3⟩ := three a b c (by simp [ha, hb, hc])
  obtain ⟨n0, n1, n2, n3⟩ := nn_spec (q_small h1 h2 h3)
  obtain ⟨d, hd⟩ := Int.eq_ofNat_of_zero_le n0
  exact ref_loop h1 h2 h3 d 1004 0 (by omega) (by omega) (by omega)
theorem worst_eq (a b c : Int) : chargeparkref05_Worst.f a b c = phases_Worst.f 1005 a b c := by
  unfold chargeparkref05_Worst.f phases_Worst.f
  rw [areCurrents_three a b c 1005 (by omega), cur_eq, cur_eq, cur_eq]
  simp only [Option.bind_some]
  have e : mx a (mx b c) = mx (mx a b) c := by rw [mx_eq, mx_eq, mx_eq, mx_eq]; omega
  cases ha : isCur a <;> cases hb : isCur b <;> cases hc : isCur c <;> simp [e]
theorem PhasesMatchesReference : chargeparklaw05_PhasesMatchesReference.Pure := by
  intro a0 a1 a2 _ _ _
  refine ⟨1005, ?_⟩
  unfold chargeparklaw05_PhasesMatchesReference.f
  rw [head_ok 1005 (by omega), ref_eq, worst_eq]
  have h1 : ∃ r, phases_Neutral.f a0 a1 a2 = some r := by unfold phases_Neutral.f; split <;> exact ⟨_, rfl⟩
  have h2 : ∃ r, phases_Worst.f 1005 a0 a1 a2 = some r := by
    unfold phases_Worst.f
    rw [areCurrents_three a0 a1 a2 1005 (by omega)]
    simp only [Option.bind_some]
    split <;> exact ⟨_, rfl⟩
  obtain ⟨⟨n, e⟩, h1⟩ := h1
  obtain ⟨⟨m, f⟩, h2⟩ := h2
  rw [h1, h2]
  simp

end Go.Proofs.Ytihfcnhiknljpaa.Pure
