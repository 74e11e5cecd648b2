/-
The order of the three phases does not matter for the current of the neutral conductor. For every three numbers of 16 bits, without conditions.
-/
import Derived.Test.YtihfcnhiknljpaaQx4
import Derived.Test.YtihfcnhiknljpaaBphases
namespace Go.Proofs.Ytihfcnhiknljpaa.Pure
open Go.RowKit Go.Proofs.Ytihfcnhiknljpaa.Q Go.Proofs.YtihfcnhiknljpaaW.PrintWords Go.Proofs.YtihfcnhiknljpaaW.PrintLast Go.Proofs.YtihfcnhiknljpaaW.PrintMore Go.Proofs.Ytihfcnhiknljpaa.Basephases

theorem PhasesOrder : chargeparklaw05_PhasesOrder.Pure := by
  intro a0 a1 a2 h0 h1 h2
  obtain ⟨a, ea, ha⟩ := amps_ok h0
  obtain ⟨b, eb, hb⟩ := amps_ok h1
  obtain ⟨c, ec, hc⟩ := amps_ok h2
  refine ⟨5, ?_⟩
  unfold chargeparklaw05_PhasesOrder.f
  rw [head_ok 5 (by omega), ea, eb, ec]
  simp only [Option.bind_some]
  rw [neutral_ok ha hb hc, neutral_ok hb hc ha, neutral_ok hc ha hb, neutral_ok hb ha hc, neutral_ok ha hc hb, neutral_ok hc hb ha]
  simp only [Option.bind_some]
  have e1 : qOf b c a = qOf a b c := by unfold qOf; grind
  have e2 : qOf c a b = qOf a b c := by unfold qOf; grind
  have e3 : qOf b a c = qOf a b c := by unfold qOf; grind
  have e4 : qOf a c b = qOf a b c := by unfold qOf; grind
  have e5 : qOf c b a = qOf a b c := by unfold qOf; grind
  rw [e1, e2, e3, e4, e5]
  have := (nn_spec (q_small ha hb hc)).1
  simp [this]

end Go.Proofs.Ytihfcnhiknljpaa.Pure
