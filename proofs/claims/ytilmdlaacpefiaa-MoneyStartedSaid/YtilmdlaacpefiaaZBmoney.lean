import Derived.Test.YtilmdlaacpefiaaZQx10
import Derived.Test.YtilmdlaacpefiaaZQx11
import Derived.Test.YtilmdlaacpefiaaZQx13
set_option linter.unusedVariables false
set_option linter.unusedSimpArgs false
set_option linter.unusedSectionVars false
namespace Go.Proofs.Ytilmdlaacpefiaa.Basemoney
open Go.RowKit Go.Proofs.Ytilmdlaacpefiaa.Q Go.Proofs.YtilmdlaacpefiaaW.PrintWords Go.Proofs.YtilmdlaacpefiaaW.PrintLast Go.Proofs.YtilmdlaacpefiaaW.PrintMore
theorem head_ok : w31_head.f 12 = some true := by decide +kernel
theorem ediv_b (n d : Int) (h : 0 < d) : n / d * d ≤ n ∧ n < n / d * d + d := by
  refine ⟨Int.ediv_mul_le _ (by omega), ?_⟩
  have := Int.lt_ediv_add_one_mul_self n h
  rw [Int.add_mul] at this
  omega
def Near (p c n : Int) : Prop := 2 * (n * c) ≤ 2 * p + c ∧ 2 * p + c < 2 * (n * c) + 2 * c
theorem near_of (p c : Int) (hc : 1 ≤ c) : Near p c ((2 * p + c) / (2 * c)) := by
  obtain ⟨h1, h2⟩ := ediv_b (2 * p + c) (2 * c) (by omega)
  have e : (2 * p + c) / (2 * c) * (2 * c) = 2 * ((2 * p + c) / (2 * c) * c) := by rw [← Int.mul_assoc, Int.mul_comm _ 2, Int.mul_assoc]
  rw [e] at h1 h2
  exact ⟨h1, h2⟩
def okT (a b c : Int) : Prop := (0 ≤ a ∧ a ≤ 1000000000) ∧ (0 ≤ b ∧ b ≤ 1000000000) ∧ (1 ≤ c ∧ c ≤ 1000000000)
theorem prod_b {a b A B : Int} (ha : 0 ≤ a ∧ a ≤ A) (hb : 0 ≤ b ∧ b ≤ B) (hA : 0 ≤ A) : 0 ≤ a * b ∧ a * b ≤ A * B := ⟨Int.mul_nonneg ha.1 hb.1, Int.mul_le_mul ha.2 hb.2 hb.1 hA⟩
theorem times_spec (a b c : Int) : (∃ n, money_Times.f a b c = some (n, 0) ∧ okT a b c ∧ Near (a * b) c n ∧ 0 ≤ n ∧ n ≤ 1000000000 ∧ n = (2 * (a * b) + c) / (2 * c)) ∨ (money_Times.f a b c = some (0, 1) ∧ ¬ okT a b c) ∨ (money_Times.f a b c = some (0, 3) ∧ okT a b c ∧ 1000000000 < (2 * (a * b) + c) / (2 * c)) := by
  unfold money_Times.f
  by_cases h : okT a b c
  · have h' : ((0 ≤ a ∧ a ≤ 1000000000) ∧ (0 ≤ b ∧ b ≤ 1000000000) ∧ (1 ≤ c ∧ c ≤ 1000000000)) := h
    rw [if_pos h']
    have hp := prod_b h'.1 h'.2.1 (by decide)
    by_cases m : (2 * (a * b) + c) / (2 * c) ≤ 1000000000
    · rw [if_pos m]
      exact .inl ⟨_, rfl, h, near_of _ _ h'.2.2.1, Int.ediv_nonneg (by omega) (by omega), m, rfl⟩
    · rw [if_neg m]
      exact .inr (.inr ⟨rfl, h, by omega⟩)
  · have h' : ¬ ((0 ≤ a ∧ a ≤ 1000000000) ∧ (0 ≤ b ∧ b ≤ 1000000000) ∧ (1 ≤ c ∧ c ≤ 1000000000)) := h
    rw [if_neg h']
    exact .inr (.inl ⟨rfl, h⟩)
theorem started_spec (a b c : Int) : (∃ n, money_Started.f a b c = some (n, 0) ∧ okT a b c ∧ n = a * ((b + c - 1) / c) ∧ 0 ≤ n ∧ n ≤ 1000000000) ∨ (money_Started.f a b c = some (0, 1) ∧ ¬ okT a b c) ∨ (money_Started.f a b c = some (0, 3) ∧ okT a b c ∧ 1000000000 < a * ((b + c - 1) / c)) := by
  unfold money_Started.f
  by_cases h : okT a b c
  · have h' : ((0 ≤ a ∧ a ≤ 1000000000) ∧ (0 ≤ b ∧ b ≤ 1000000000) ∧ (1 ≤ c ∧ c ≤ 1000000000)) := h
    rw [if_pos h']
    by_cases m : a * ((b + c - 1) / c) ≤ 1000000000
    · rw [if_pos m]
      exact .inl ⟨_, rfl, h, rfl, Int.mul_nonneg h'.1.1 (Int.ediv_nonneg (by omega) (by omega)), m⟩
    · rw [if_neg m]
      exact .inr (.inr ⟨rfl, h, by omega⟩)
  · have h' : ¬ ((0 ≤ a ∧ a ≤ 1000000000) ∧ (0 ≤ b ∧ b ≤ 1000000000) ∧ (1 ≤ c ∧ c ≤ 1000000000)) := h
    rw [if_neg h']
    exact .inr (.inl ⟨rfl, h⟩)
end Go.Proofs.Ytilmdlaacpefiaa.Basemoney
