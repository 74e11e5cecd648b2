/-
If only one phase carries a current, the neutral conductor carries the same; and it never carries more than the greatest phase carries more than the least one. For every three numbers of 16 bits, without conditions.
-/
import Derived.Test.YtihfcnhiknljpaaQx5
import Derived.Test.YtihfcnhiknljpaaBphases
namespace Go.Proofs.Ytihfcnhiknljpaa.Pure
open Go.RowKit Go.Proofs.Ytihfcnhiknljpaa.Q Go.Proofs.YtihfcnhiknljpaaW.PrintWords Go.Proofs.YtihfcnhiknljpaaW.PrintLast Go.Proofs.YtihfcnhiknljpaaW.PrintMore Go.Proofs.Ytihfcnhiknljpaa.Basephases

theorem mx_eq (a b : Int) : mx a b = max a b := by unfold mx; omega
theorem mn_eq (a b : Int) : mn a b = min a b := by unfold mn; omega
theorem nn_one {a : Int} (ha : 0 ≤ a ∧ a ≤ 1000) : nn (qOf a 0 0) = a := by
  have e : qOf a 0 0 = 2 * (a * a) := by unfold qOf; grind
  have h := q_small ha (b := 0) (c := 0) (by omega) (by omega)
  refine nn_eq h ha.1 (by omega) (fun h => ?_)
  have : (a - 1) * (a - 1) = a * a - 2 * a + 1 := by grind
  omega
theorem PhasesOne : chargeparklaw05_PhasesOne.Pure := by
  intro a0 a1 a2 h0 h1 h2
  obtain ⟨a, ea, ha⟩ := amps_ok h0
  obtain ⟨b, eb, hb⟩ := amps_ok h1
  obtain ⟨c, ec, hc⟩ := amps_ok h2
  refine ⟨5, ?_⟩
  unfold chargeparklaw05_PhasesOne.f
  rw [head_ok 5 (by omega), ea, eb, ec]
  simp only [Option.bind_some]
  rw [neutral_ok ha hb hc, neutral_ok ha (by omega) (by omega)]
  simp only [Option.bind_some, if_true]
  rw [nn_one ha, if_pos rfl, if_pos (nn_spec (q_small ha hb hc)).1]
  have h := qOf_le (a := a) (b := b) (c := c) (lo := min (min a b) c) (hi := max (max a b) c) (by omega) (by omega) (by omega)
  have := nn_le (q_small ha hb hc) (by omega) h
  rw [mx_eq, mx_eq, mn_eq, mn_eq, hb_wrap64 _ (by omega) (by omega)]
  simpa using this

end Go.Proofs.Ytihfcnhiknljpaa.Pure
