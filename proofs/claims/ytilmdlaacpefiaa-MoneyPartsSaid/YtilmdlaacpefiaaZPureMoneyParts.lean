/-
The prices of two quantities together differ from the price of their sum by at most 1. For every four numbers, without conditions.
-/
import Derived.Test.YtilmdlaacpefiaaZQx19
import Derived.Test.YtilmdlaacpefiaaZBmoney
set_option linter.unusedVariables false
set_option linter.unusedSimpArgs false
set_option linter.unusedSectionVars false
namespace Go.Proofs.Ytilmdlaacpefiaa.Pure
open Go.RowKit Go.Proofs.Ytilmdlaacpefiaa.Q Go.Proofs.YtilmdlaacpefiaaW.PrintWords Go.Proofs.YtilmdlaacpefiaaW.PrintLast Go.Proofs.YtilmdlaacpefiaaW.PrintMore Go.Proofs.Ytilmdlaacpefiaa.Basemoney

theorem parts_near {A B c x y z : Int} (hc : 1 ≤ c) (hx : Near A c x) (hy : Near B c y) (hz : Near (A + B) c z) : x + y - z ≤ 1 ∧ z - x - y ≤ 1 := by
  obtain ⟨x1, x2⟩ := hx
  obtain ⟨y1, y2⟩ := hy
  obtain ⟨z1, z2⟩ := hz
  have e : (x + y - z) * c = x * c + y * c - z * c := by rw [Int.sub_mul, Int.add_mul]
  have e' : (z - x - y) * c = z * c - x * c - y * c := by rw [Int.sub_mul, Int.sub_mul]
  have u1 : (x + y - z) * c < 2 * c := by omega
  have u2 : (z - x - y) * c < 2 * c := by omega
  have := Int.lt_of_mul_lt_mul_right u1 (by omega)
  have := Int.lt_of_mul_lt_mul_right u2 (by omega)
  omega
theorem parts_j (a b c d : Int) (hb : b ≤ 1000000000) (hc : c ≤ 1000000000) : w31_MoneyParts.j0 12 a b c d true false = some true := by
  show w31_MoneyParts.j0 (11 + 1) a b c d true false = some true
  simp only [w31_MoneyParts.j0]
  rw [if_neg (by decide)]
  have get : ∀ x y z, ∃ r, money_Times.f x y z = some r := fun x y z => by
    rcases times_spec x y z with ⟨n, e, _⟩ | ⟨e, _⟩ | ⟨e, _⟩ <;> exact ⟨_, e⟩
  rcases times_spec a b d with ⟨x, ex, hx, nx, x0, x1, _⟩ | ⟨ex, _⟩ | ⟨ex, _⟩
  · rcases times_spec a c d with ⟨y, ey, hy, ny, y0, y1, _⟩ | ⟨ey, _⟩ | ⟨ey, _⟩
    · have ew : wrap64 (b + c) = b + c := by obtain ⟨_, _, _⟩ := hx; obtain ⟨_, _, _⟩ := hy; unfold wrap64; omega
      rw [ew]
      rcases times_spec a (b + c) d with ⟨z, ez, hz, nz, z0, z1, _⟩ | ⟨ez, _⟩ | ⟨ez, _⟩
      · rw [ex, ey, ez]
        rw [Int.mul_add] at nz
        obtain ⟨p1, p2⟩ := parts_near hx.2.2.1 nx ny nz
        have w1 : wrap64 (x + y) = x + y := by unfold wrap64; omega
        have w2 : wrap64 (x + y - z) = x + y - z := by unfold wrap64; omega
        have w3 : wrap64 (z - x) = z - x := by unfold wrap64; omega
        have w4 : wrap64 (z - x - y) = z - x - y := by unfold wrap64; omega
        simp only [Option.bind_some, if_true, w1, w2, w3, w4]
        rw [if_pos p1, decide_eq_true p2]
      · rw [ex, ey, ez]; simp
      · rw [ex, ey, ez]; simp
    · obtain ⟨r, er⟩ := get a (wrap64 (b + c)) d
      rw [ex, ey, er]; simp
    · obtain ⟨r, er⟩ := get a (wrap64 (b + c)) d
      rw [ex, ey, er]; simp
  · obtain ⟨r, er⟩ := get a (wrap64 (b + c)) d
    obtain ⟨q, eq⟩ := get a c d
    rw [ex, eq, er]; simp
  · obtain ⟨r, er⟩ := get a (wrap64 (b + c)) d
    obtain ⟨q, eq⟩ := get a c d
    rw [ex, eq, er]; simp
theorem MoneyParts : w31_MoneyParts.Pure := by
  intro a0 a1 a2 a3 _ _ _ _
  refine ⟨12, ?_⟩
  unfold w31_MoneyParts.f
  rw [head_ok]
  simp only [Option.bind_some]
  have out : w31_MoneyParts.j0 12 a0 a1 a2 a3 true true = some true := by
    show w31_MoneyParts.j0 (11 + 1) a0 a1 a2 a3 true true = some true
    simp only [w31_MoneyParts.j0, if_true]
  by_cases c : a1 > 1000000000
  · rw [if_pos c, out]
  · rw [if_neg c]
    by_cases c2 : a2 > 1000000000
    · rw [decide_eq_true c2, out]
    · rw [decide_eq_false c2, parts_j a0 a1 a2 a3 (by omega) (by omega)]

end Go.Proofs.Ytilmdlaacpefiaa.Pure
