/-
The prices for started units: of two quantities together at least that of their sum, and at most one price more; whole units cost the price of each one. For every four numbers, without conditions.
-/
import Derived.Test.YtilmdlaacpefiaaZQx20
import Derived.Test.YtilmdlaacpefiaaZBmoney
set_option linter.unusedVariables false
set_option linter.unusedSimpArgs false
set_option linter.unusedSectionVars false
namespace Go.Proofs.Ytilmdlaacpefiaa.Pure
open Go.RowKit Go.Proofs.Ytilmdlaacpefiaa.Q Go.Proofs.YtilmdlaacpefiaaW.PrintWords Go.Proofs.YtilmdlaacpefiaaW.PrintLast Go.Proofs.YtilmdlaacpefiaaW.PrintMore Go.Proofs.Ytilmdlaacpefiaa.Basemoney

theorem ceil_b (b u : Int) (hu : 1 ≤ u) : (b + u - 1) / u * u ≤ b + u - 1 ∧ b + u - 1 < (b + u - 1) / u * u + u := ediv_b _ _ (by omega)
theorem ceil_two {a b u : Int} (hu : 1 ≤ u) : (a + b + u - 1) / u ≤ (a + u - 1) / u + (b + u - 1) / u ∧ (a + u - 1) / u + (b + u - 1) / u ≤ (a + b + u - 1) / u + 1 := by
  obtain ⟨a1, a2⟩ := ceil_b a u hu
  obtain ⟨b1, b2⟩ := ceil_b b u hu
  obtain ⟨c1, c2⟩ := ceil_b (a + b) u hu
  generalize (a + u - 1) / u = x at *
  generalize (b + u - 1) / u = y at *
  generalize (a + b + u - 1) / u = z at *
  have e1 : (z - x - y) * u = z * u - x * u - y * u := by rw [Int.sub_mul, Int.sub_mul]
  have e2 : (x + y - z) * u = x * u + y * u - z * u := by rw [Int.sub_mul, Int.add_mul]
  have u1 : (z - x - y) * u < 1 * u := by omega
  have u2 : (x + y - z) * u < 2 * u := by omega
  have := Int.lt_of_mul_lt_mul_right u1 (by omega)
  have := Int.lt_of_mul_lt_mul_right u2 (by omega)
  omega
theorem ceil_whole (a u : Int) (hu : 1 ≤ u) : (a * u + u - 1) / u = a := by
  obtain ⟨c1, c2⟩ := ceil_b (a * u) u hu
  generalize (a * u + u - 1) / u = z at *
  have e1 : (z - a) * u = z * u - a * u := Int.sub_mul _ _ _
  have e2 : (a - z) * u = a * u - z * u := Int.sub_mul _ _ _
  have u1 : (z - a) * u < 1 * u := by omega
  have u2 : (a - z) * u < 1 * u := by omega
  have := Int.lt_of_mul_lt_mul_right u1 (by omega)
  have := Int.lt_of_mul_lt_mul_right u2 (by omega)
  omega
theorem started_j (p a b u : Int) (hb : b ≤ 1000000000) (hp : 0 ≤ p ∧ p ≤ 1000000) (hu : 1 ≤ u ∧ u ≤ 1000) (ha : 0 ≤ a ∧ a ≤ 500) : w31_MoneyStarted.j0 12 p a b u true false = some true := by
  show w31_MoneyStarted.j0 (11 + 1) p a b u true false = some true
  simp only [w31_MoneyStarted.j0]
  rw [if_neg (by decide)]
  have get : ∀ x y z, ∃ r, money_Started.f x y z = some r := fun x y z => by
    rcases started_spec x y z with ⟨n, e, _⟩ | ⟨e, _⟩ | ⟨e, _⟩ <;> exact ⟨_, e⟩
  have q0 : 0 ≤ (a + u - 1) / u := Int.ediv_nonneg (by omega) (by omega)
  have q1 : (a + u - 1) / u ≤ 500 := by
    obtain ⟨c1, c2⟩ := ceil_b a u hu.1
    generalize (a + u - 1) / u = z at *
    by_cases h : z ≤ 500
    · exact h
    · exfalso
      have h1 : 501 * u ≤ z * u := Int.mul_le_mul_of_nonneg_right (by omega) (by omega)
      omega
  have hpa := prod_b hp ⟨q0, q1⟩ (by decide)
  have hau := prod_b ha ⟨by omega, hu.2⟩ (show (0 : Int) ≤ 500 by decide)
  have hap := prod_b ha hp (show (0 : Int) ≤ 500 by decide)
  have wau : wrap64 (a * u) = a * u := by unfold wrap64; omega
  have wap : wrap64 (a * p) = a * p := by unfold wrap64; omega
  have ok1 : okT p a u := ⟨by omega, by omega, by omega⟩
  have ok2 : okT p (a * u) u := ⟨by omega, by omega, by omega⟩
  have hcomm : p * a = a * p := Int.mul_comm _ _
  rcases started_spec p a u with ⟨x, ex, _, hx, x0, x1⟩ | ⟨_, h⟩ | ⟨_, _, h⟩
  · rcases started_spec p (a * u) u with ⟨v, ev, _, hv, v0, v1⟩ | ⟨_, h⟩ | ⟨_, _, h⟩
    · rw [ceil_whole a u hu.1, hcomm] at hv
      rw [wau, ex, ev]
      rcases started_spec p b u with ⟨y, ey, oky, hy, y0, y1⟩ | ⟨ey, _⟩ | ⟨ey, _⟩
      · have ew : wrap64 (a + b) = a + b := by obtain ⟨_, _, _⟩ := oky; unfold wrap64; omega
        rw [ew, ey]
        rcases started_spec p (a + b) u with ⟨z, ez, _, hz, z0, z1⟩ | ⟨ez, _⟩ | ⟨ez, _⟩
        · rw [ez]
          obtain ⟨c1, c2⟩ := ceil_two (a := a) (b := b) hu.1
          have d1 : z ≤ x + y := by
            rw [hz, hx, hy, ← Int.mul_add]
            exact Int.mul_le_mul_of_nonneg_left c1 hp.1
          have d2 : x + y ≤ z + p := by
            have h := Int.mul_le_mul_of_nonneg_left c2 hp.1
            rw [Int.mul_add, Int.mul_add, Int.mul_one] at h
            omega
          have w1 : wrap64 (x + y) = x + y := by unfold wrap64; omega
          have w2 : wrap64 (z + p) = z + p := by unfold wrap64; omega
          simp only [Option.bind_some, if_true, wap, w1, w2]
          rw [if_pos hv, if_pos d1, decide_eq_true d2]
        · rw [ez]; simp [wap, hv]
        · rw [ez]; simp [wap, hv]
      · obtain ⟨r, er⟩ := get p (wrap64 (a + b)) u
        rw [ey, er]; simp [wap, hv]
      · obtain ⟨r, er⟩ := get p (wrap64 (a + b)) u
        rw [ey, er]; simp [wap, hv]
    · exact absurd ok2 h
    · rw [ceil_whole a u hu.1] at h
      omega
  · exact absurd ok1 h
  · omega
theorem MoneyStarted : w31_MoneyStarted.Pure := by
  intro a0 a1 a2 a3 _ _ _ _
  refine ⟨12, ?_⟩
  unfold w31_MoneyStarted.f
  rw [head_ok]
  simp only [Option.bind_some]
  have out : w31_MoneyStarted.j0 12 a0 a1 a2 a3 true true = some true := by
    show w31_MoneyStarted.j0 (11 + 1) a0 a1 a2 a3 true true = some true
    simp only [w31_MoneyStarted.j0, if_true]
  by_cases c1 : a1 > 1000000000
  · rw [if_pos c1, out]
  rw [if_neg c1]
  by_cases c2 : a2 > 1000000000
  · rw [if_pos c2, out]
  rw [if_neg c2]
  by_cases c3 : a0 < 0
  · rw [if_pos c3, out]
  rw [if_neg c3]
  by_cases c4 : a0 > 1000000
  · rw [if_pos c4, out]
  rw [if_neg c4]
  by_cases c5 : a3 < 1
  · rw [if_pos c5, out]
  rw [if_neg c5]
  by_cases c6 : a3 > 1000
  · rw [if_pos c6, out]
  rw [if_neg c6]
  by_cases c7 : a1 < 0
  · rw [if_pos c7, out]
  rw [if_neg c7]
  by_cases c8 : a1 > 500
  · rw [decide_eq_true c8, out]
  rw [decide_eq_false c8, started_j a0 a1 a2 a3 (by omega) ⟨by omega, by omega⟩ ⟨by omega, by omega⟩ ⟨by omega, by omega⟩]

end Go.Proofs.Ytilmdlaacpefiaa.Pure
