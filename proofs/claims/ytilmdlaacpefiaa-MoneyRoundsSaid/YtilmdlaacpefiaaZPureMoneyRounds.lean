/-
Times is a quotient rounded half up, and Tax is Times of the rate per 10000. For every three numbers, without conditions.
-/
import Derived.Test.YtilmdlaacpefiaaZQx18
import Derived.Test.YtilmdlaacpefiaaZQx10
import Derived.Test.YtilmdlaacpefiaaZBmoney
set_option linter.unusedVariables false
set_option linter.unusedSimpArgs false
set_option linter.unusedSectionVars false
namespace Go.Proofs.Ytilmdlaacpefiaa.Pure
open Go.RowKit Go.Proofs.Ytilmdlaacpefiaa.Q Go.Proofs.YtilmdlaacpefiaaW.PrintWords Go.Proofs.YtilmdlaacpefiaaW.PrintLast Go.Proofs.YtilmdlaacpefiaaW.PrintMore Go.Proofs.Ytilmdlaacpefiaa.Basemoney

theorem MoneyRounds : w31_MoneyRounds.Pure := by
  intro a0 a1 a2 _ _ _
  refine ⟨12, ?_⟩
  unfold w31_MoneyRounds.f
  rw [head_ok]
  rcases times_spec a0 a1 a2 with ⟨n, e, h, hn, n0, n1, _⟩ | ⟨e, _⟩ | ⟨e, _, _⟩
  · rw [e]
    simp only [Option.bind_some, if_true]
    obtain ⟨ha, hb, hc⟩ := h
    have hp := prod_b ha hb (by decide)
    obtain ⟨h1, h2⟩ := hn
    have e1 : wrap64 (n * a2) = n * a2 := by unfold wrap64; omega
    have e2 : wrap64 (a0 * a1) = a0 * a1 := by unfold wrap64; omega
    have e3 : wrap64 (n * a2 - a0 * a1) = n * a2 - a0 * a1 := by unfold wrap64; omega
    have e4 : wrap64 (2 * (n * a2 - a0 * a1)) = 2 * (n * a2 - a0 * a1) := by unfold wrap64; omega
    have e5 : wrap64 (-a2) = -a2 := by unfold wrap64; omega
    have t : ∃ r, money_Tax.f a0 a1 = some r ∧ ∃ r', money_Times.f a0 a1 10000 = some r' ∧ (a1 ≤ 100000 → r = r') := by
      have okt : (0 ≤ a0 ∧ a0 ≤ 1000000000) ∧ (0 ≤ a1 ∧ a1 ≤ 1000000000) ∧ (1 ≤ (10000 : Int) ∧ (10000 : Int) ≤ 1000000000) := ⟨ha, hb, by omega⟩
      have e20 : (2 * 10000 : Int) = 20000 := rfl
      unfold money_Tax.f money_Times.f
      rw [if_pos okt, e20]
      by_cases c : a1 ≤ 100000
      · rw [if_pos ⟨ha, hb.1, c⟩]
        by_cases m : (2 * (a0 * a1) + 10000) / 20000 ≤ 1000000000
        · rw [if_pos m]
          exact ⟨_, rfl, _, rfl, fun _ => rfl⟩
        · rw [if_neg m]
          exact ⟨_, rfl, _, rfl, fun _ => rfl⟩
      · rw [if_neg (fun z => c z.2.2)]
        by_cases m : (2 * (a0 * a1) + 10000) / 20000 ≤ 1000000000
        · rw [if_pos m]
          exact ⟨_, rfl, _, rfl, fun z => absurd z c⟩
        · rw [if_neg m]
          exact ⟨_, rfl, _, rfl, fun z => absurd z c⟩
    obtain ⟨r, t1, r', t2, t3⟩ := t
    rw [t1, t2]
    simp only [Option.bind_some, if_true, e1, e2, e3, e4, e5]
    rw [if_pos (by omega), if_pos (by omega)]
    by_cases c : a1 > 100000
    · rw [if_pos c]
    · rw [if_neg c, t3 (by omega), if_pos rfl]
      simp
  · rw [e]
    simp
  · rw [e]
    simp

end Go.Proofs.Ytilmdlaacpefiaa.Pure
