import Derived.Test.YtihfcnhiknljpaaQx2
import Derived.Test.YtihfcnhiknljpaaQx3
import Derived.Test.YtihfcnhiknljpaaQx4
namespace Go.Proofs.Ytihfcnhiknljpaa.Basephases
open Go.RowKit Go.Proofs.Ytihfcnhiknljpaa.Q Go.Proofs.YtihfcnhiknljpaaW.PrintWords Go.Proofs.YtihfcnhiknljpaaW.PrintLast Go.Proofs.YtihfcnhiknljpaaW.PrintMore

theorem mul_mono {a b : Int} (h : 0 ≤ a) (h2 : a ≤ b) : a * a ≤ b * b := Int.mul_le_mul h2 h2 h (by omega)
theorem lt_of_sq {a b : Int} (hb : 0 ≤ b) (h2 : a * a < b * b) : a < b := by
  rcases Int.lt_or_le a b with h | h
  · exact h
  · have := mul_mono hb h; omega
theorem sq_nonneg (a : Int) : 0 ≤ a * a := by
  rcases Int.le_total 0 a with h | h
  · exact Int.mul_nonneg h h
  · have e : a * a = (-a) * (-a) := by rw [Int.neg_mul_neg]
    rw [e]; exact Int.mul_nonneg (by omega) (by omega)
/-- what the least root is -/
theorem nn_spec {q : Int} (h1 : q ≤ 2000000) : 0 ≤ nn q ∧ nn q ≤ 1000 ∧ q ≤ 2 * (nn q * nn q) ∧ (0 < nn q → 2 * ((nn q - 1) * (nn q - 1)) < q) := by
  obtain ⟨a, b, c, d⟩ := leastF_spec (fun n => decide (q ≤ 2 * n * n)) 1000 0
  have e : leastF (fun n => decide (q ≤ 2 * n * n)) 0 1000 = nn q := rfl
  rw [e] at a b c d
  refine ⟨a, by omega, ?_, fun h => ?_⟩
  · rcases Int.lt_or_le (nn q) 1000 with h | h
    · have := d (by omega); simp only [decide_eq_true_eq] at this; rw [Int.mul_assoc] at this; exact this
    · have : nn q = 1000 := by omega
      rw [this]; omega
  · have := c (nn q - 1) (by omega) (by omega)
    simp only [decide_eq_false_iff_not] at this
    rw [Int.mul_assoc] at this
    omega
theorem nn_le {q m : Int} (h1 : q ≤ 2000000) (hm : 0 ≤ m) (h : q ≤ 2 * (m * m)) : nn q ≤ m := by
  obtain ⟨a, b, c, d⟩ := nn_spec h1
  rcases Int.lt_or_le m (nn q) with g | g
  · have g1 := d (by omega)
    have := mul_mono hm (show m ≤ nn q - 1 by omega)
    omega
  · exact g
theorem nn_eq {q m : Int} (h1 : q ≤ 2000000) (hm : 0 ≤ m) (h : q ≤ 2 * (m * m)) (h2 : 0 < m → 2 * ((m - 1) * (m - 1)) < q) : nn q = m := by
  obtain ⟨a, b, c, d⟩ := nn_spec h1
  have g := nn_le h1 hm h
  rcases Int.lt_or_le (nn q) m with k | k
  · have := h2 (by omega)
    have := mul_mono a (show nn q ≤ m - 1 by omega)
    omega
  · omega
theorem qOf_eq (a b c : Int) : qOf a b c = 2 * (a * a + b * b + c * c - a * b - b * c - c * a) := by unfold qOf; grind
/-- with all three between lo and hi -/
theorem qOf_le {a b c lo hi : Int} (ha : lo ≤ a ∧ a ≤ hi) (hb : lo ≤ b ∧ b ≤ hi) (hc : lo ≤ c ∧ c ≤ hi) : qOf a b c ≤ 2 * ((hi - lo) * (hi - lo)) := by
  have key : ∀ x y : Int, 0 ≤ x → 0 ≤ y → x + y ≤ hi - lo → x * x + y * y + (x + y) * (x + y) ≤ 2 * ((hi - lo) * (hi - lo)) := by
    intro x y hx hy hxy
    have h1 := mul_mono (show 0 ≤ x + y by omega) hxy
    have h2 := Int.mul_nonneg hx hy
    grind
  unfold qOf
  rcases Int.le_total a b with h1 | h1 <;> rcases Int.le_total b c with h2 | h2 <;> rcases Int.le_total a c with h3 | h3
  · have := key (b - a) (c - b) (by omega) (by omega) (by omega); grind
  · have := key (b - a) (c - b) (by omega) (by omega) (by omega); grind
  · have := key (c - a) (b - c) (by omega) (by omega) (by omega); grind
  · have := key (a - c) (b - a) (by omega) (by omega) (by omega); grind
  · have := key (a - b) (c - a) (by omega) (by omega) (by omega); grind
  · have := key (c - b) (a - c) (by omega) (by omega) (by omega); grind
  · have := key (b - c) (a - b) (by omega) (by omega) (by omega); grind
  · have := key (b - c) (a - b) (by omega) (by omega) (by omega); grind
theorem qOf_nonneg (a b c : Int) : 0 ≤ qOf a b c := by
  unfold qOf; have := sq_nonneg (a - b); have := sq_nonneg (b - c); have := sq_nonneg (c - a); omega
theorem q_small {a b c : Int} (ha : 0 ≤ a ∧ a ≤ 1000) (hb : 0 ≤ b ∧ b ≤ 1000) (hc : 0 ≤ c ∧ c ≤ 1000) : qOf a b c ≤ 2000000 := by
  have := qOf_le (lo := 0) (hi := 1000) ha hb hc; omega
theorem isCur_of {a : Int} (h : 0 ≤ a ∧ a ≤ 1000) : isCur a = true := by simp [isCur, h]
theorem neutral_ok {a b c : Int} (ha : 0 ≤ a ∧ a ≤ 1000) (hb : 0 ≤ b ∧ b ≤ 1000) (hc : 0 ≤ c ∧ c ≤ 1000) :
    chargeparklaw05_neutral.f a b c = some (nn (qOf a b c)) := by
  unfold chargeparklaw05_neutral.f phases_Neutral.f
  rw [isCur_of ha, isCur_of hb, isCur_of hc]
  rfl
theorem amps_ok {a : Int} (h : (Lit.int .u16 a).wf = true) : ∃ x, chargeparklaw05_amps.f a = some x ∧ 0 ≤ x ∧ x ≤ 1000 := by
  have h' := wf_u16 h
  refine ⟨_, rfl, ?_⟩
  rw [hb_wrap64 a (by omega) (by omega), Int.tmod_eq_emod_of_nonneg h'.1]
  omega
theorem head_ok (k : Nat) (hk : 5 ≤ k) : chargeparklaw05_head.f k = some true := by
  have h : chargeparklaw05_head.f 5 = some true := by decide +kernel
  obtain ⟨d, rfl⟩ : ∃ d, k = 5 + d := ⟨k - 5, by omega⟩
  clear hk
  induction d with
  | zero => exact h
  | succ d ih => exact chargeparklaw05_head.mono (5 + d) _ ih

end Go.Proofs.Ytihfcnhiknljpaa.Basephases
