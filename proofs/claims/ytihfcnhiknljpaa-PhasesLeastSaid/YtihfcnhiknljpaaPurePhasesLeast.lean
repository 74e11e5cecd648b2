/-
The square of the current of the neutral conductor is at least a a + b b + c c - a b - b c - c a, and that of the number before it is less. For every three numbers of 16 bits, without conditions.
-/
import Derived.Test.YtihfcnhiknljpaaQx4
import Derived.Test.YtihfcnhiknljpaaBphases
namespace Go.Proofs.Ytihfcnhiknljpaa.Pure
open Go.RowKit Go.Proofs.Ytihfcnhiknljpaa.Q Go.Proofs.YtihfcnhiknljpaaW.PrintWords Go.Proofs.YtihfcnhiknljpaaW.PrintLast Go.Proofs.YtihfcnhiknljpaaW.PrintMore Go.Proofs.Ytihfcnhiknljpaa.Basephases

theorem sq_bd {a b : Int} (ha : 0 ≤ a ∧ a ≤ 1000) (hb : 0 ≤ b ∧ b ≤ 1000) : 0 ≤ a * b ∧ a * b ≤ 1000000 :=
  ⟨Int.mul_nonneg ha.1 hb.1, by have := Int.mul_le_mul ha.2 hb.2 hb.1 (by omega); omega⟩
theorem PhasesLeast : chargeparklaw05_PhasesLeast.Pure := by
  intro a0 a1 a2 h0 h1 h2
  obtain ⟨a, ea, ha⟩ := amps_ok h0
  obtain ⟨b, eb, hb⟩ := amps_ok h1
  obtain ⟨c, ec, hc⟩ := amps_ok h2
  refine ⟨5, ?_⟩
  unfold chargeparklaw05_PhasesLeast.f
  rw [head_ok 5 (by omega), ea, eb, ec]
  simp only [Option.bind_some]
  rw [neutral_ok ha hb hc]
  simp only [Option.bind_some, if_true]
  obtain ⟨n0, n1, n2, n3⟩ := nn_spec (q_small ha hb hc)
  generalize hn : nn (qOf a b c) = n at *
  rw [qOf_eq] at n2 n3
  have haa := sq_bd ha ha
  have hbb := sq_bd hb hb
  have hcc := sq_bd hc hc
  have hab := sq_bd ha hb
  have hbc := sq_bd hb hc
  have hca := sq_bd hc ha
  have hnn := sq_bd ⟨n0, n1⟩ ⟨n0, n1⟩
  have hn1 := hb_sq (d := n - 1) 1000 (by omega) (by omega)
  rw [hb_wrap64 (n * n) (by omega) (by omega), hb_wrap64 (a * a) (by omega) (by omega), hb_wrap64 (b * b) (by omega) (by omega), hb_wrap64 (c * c) (by omega) (by omega), hb_wrap64 (a * b) (by omega) (by omega), hb_wrap64 (b * c) (by omega) (by omega), hb_wrap64 (c * a) (by omega) (by omega), hb_wrap64 (n - 1) (by omega) (by omega), hb_wrap64 ((n - 1) * (n - 1)) (by omega) (by omega)]
  rw [hb_wrap64 (a * a + b * b) (by omega) (by omega), hb_wrap64 (a * a + b * b + c * c) (by omega) (by omega), hb_wrap64 (a * a + b * b + c * c - a * b) (by omega) (by omega), hb_wrap64 (a * a + b * b + c * c - a * b - b * c) (by omega) (by omega), hb_wrap64 (a * a + b * b + c * c - a * b - b * c - c * a) (by omega) (by omega)]
  rw [if_pos n0, if_pos (by omega)]
  by_cases e : n = 0
  · rw [if_pos e]
  · rw [if_neg e]
    have := n3 (by omega)
    simp only [Option.some.injEq, decide_eq_true_eq]
    omega

end Go.Proofs.Ytihfcnhiknljpaa.Pure
