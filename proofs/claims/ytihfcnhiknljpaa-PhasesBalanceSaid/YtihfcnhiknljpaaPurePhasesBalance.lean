/-
The neutral conductor carries nothing if and only if all phases carry the same; and if all carry the same amount more, it carries as much as before. For every four numbers of 16 bits, without conditions.
-/
import Derived.Test.YtihfcnhiknljpaaQx5
import Derived.Test.YtihfcnhiknljpaaBphases
namespace Go.Proofs.Ytihfcnhiknljpaa.Pure
open Go.RowKit Go.Proofs.Ytihfcnhiknljpaa.Q Go.Proofs.YtihfcnhiknljpaaW.PrintWords Go.Proofs.YtihfcnhiknljpaaW.PrintLast Go.Proofs.YtihfcnhiknljpaaW.PrintMore Go.Proofs.Ytihfcnhiknljpaa.Basephases

theorem mx_eq (a b : Int) : mx a b = max a b := by unfold mx; omega
theorem nn_zero {q : Int} (h1 : q ≤ 2000000) (h0 : 0 ≤ q) : nn q = 0 ↔ q = 0 := by
  obtain ⟨a, b, c, d⟩ := nn_spec h1
  refine ⟨fun e => ?_, fun e => ?_⟩
  · rw [e] at c; omega
  · rcases Int.lt_or_le 0 (nn q) with h | h
    · have := d h
      have := sq_nonneg (nn q - 1)
      omega
    · omega
theorem q_zero (a b c : Int) : qOf a b c = 0 ↔ a = b ∧ b = c := by
  refine ⟨fun h => ?_, fun ⟨h1, h2⟩ => by subst h1; subst h2; unfold qOf; grind⟩
  unfold qOf at h
  have h1 := sq_nonneg (a - b)
  have h2 := sq_nonneg (b - c)
  have h3 := sq_nonneg (c - a)
  have e1 : (a - b) * (a - b) = 0 := by omega
  have e2 : (b - c) * (b - c) = 0 := by omega
  have := Int.mul_eq_zero.1 e1
  have := Int.mul_eq_zero.1 e2
  omega
theorem PhasesBalance : chargeparklaw05_PhasesBalance.Pure := by
  intro a0 a1 a2 a3 h0 h1 h2 h3
  obtain ⟨a, ea, ha⟩ := amps_ok h0
  obtain ⟨b, eb, hb⟩ := amps_ok h1
  obtain ⟨c, ec, hc⟩ := amps_ok h2
  have h3' := wf_u16 h3
  refine ⟨5, ?_⟩
  unfold chargeparklaw05_PhasesBalance.f
  rw [head_ok 5 (by omega), ea, eb, ec]
  simp only [Option.bind_some]
  rw [neutral_ok ha hb hc]
  simp only [Option.bind_some, if_true]
  have hn := (nn_spec (q_small ha hb hc)).1
  rw [if_neg (show ¬ nn (qOf a b c) < 0 by omega)]
  rw [mx_eq, mx_eq]
  have hz := (nn_zero (q_small ha hb hc) (qOf_nonneg a b c)).trans (q_zero a b c)
  obtain ⟨m, hm⟩ : ∃ m, max (max a b) c = m := ⟨_, rfl⟩
  have hmb : a ≤ m ∧ b ≤ m ∧ c ≤ m ∧ m ≤ 1000 ∧ 0 ≤ m := by omega
  rw [hm, hb_wrap64 (1001 - m) (by omega) (by omega), hb_wrap64 a3 (by omega) (by omega), Int.tmod_eq_emod_of_nonneg h3'.1]
  have hd0 : 0 ≤ a3 % (1001 - m) := Int.emod_nonneg _ (by omega)
  have hd1 : a3 % (1001 - m) < 1001 - m := Int.emod_lt_of_pos _ (by omega)
  generalize a3 % (1001 - m) = d at *
  rw [if_neg (show ¬ 1001 - m = 0 by omega), hb_wrap64 (a + d) (by omega) (by omega), hb_wrap64 (b + d) (by omega) (by omega), hb_wrap64 (c + d) (by omega) (by omega)]
  rw [neutral_ok (by omega) (by omega) (by omega), show qOf (a + d) (b + d) (c + d) = qOf a b c by unfold qOf; grind]
  simp only [Option.bind_some, beq_self_eq_true]
  by_cases e : a = b
  · rw [if_pos e]
    by_cases e2 : b = c
    · have := hz.2 ⟨e, e2⟩
      rw [this, e2]; simp
    · have : ¬ nn (qOf a b c) = 0 := fun h => e2 (hz.1 h).2
      have e3 : (b == c) = false := by simp [e2]
      have e4 : (nn (qOf a b c) == 0) = false := by simp [this]
      rw [e3, e4]; rfl
  · rw [if_neg e]
    have : ¬ nn (qOf a b c) = 0 := fun h => e (hz.1 h).1
    have e4 : (nn (qOf a b c) == 0) = false := by simp [this]
    rw [e4]; rfl

end Go.Proofs.Ytihfcnhiknljpaa.Pure
