/-
For all currents up to some bounds the neutral conductor carries at most what Worst returns for these bounds, and for some of them it does carry that. For every six numbers of 16 bits, without conditions.
-/
import Derived.Test.YtihfcnhiknljpaaQx6
import Derived.Test.YtihfcnhiknljpaaQx2
import Derived.Test.YtihfcnhiknljpaaBphases
namespace Go.Proofs.Ytihfcnhiknljpaa.Pure
open Go.RowKit Go.Proofs.Ytihfcnhiknljpaa.Q Go.Proofs.YtihfcnhiknljpaaW.PrintWords Go.Proofs.YtihfcnhiknljpaaW.PrintLast Go.Proofs.YtihfcnhiknljpaaW.PrintMore Go.Proofs.Ytihfcnhiknljpaa.Basephases

theorem mx_eq (a b : Int) : mx a b = max a b := by unfold mx; omega
theorem nn_one {a : Int} (ha : 0 ≤ a ∧ a ≤ 1000) (q : Int) (e : q = 2 * (a * a)) (h : q ≤ 2000000) : nn q = a := by
  refine nn_eq h ha.1 (by omega) (fun h => ?_)
  have : (a - 1) * (a - 1) = a * a - 2 * a + 1 := by grind
  omega
theorem worst_ok {a b c : Int} (ha : 0 ≤ a ∧ a ≤ 1000) (hb : 0 ≤ b ∧ b ≤ 1000) (hc : 0 ≤ c ∧ c ≤ 1000) : phases_Worst.f 5 a b c = some (max (max a b) c, 0) := by
  unfold phases_Worst.f
  rw [areCurrents_three a b c 5 (by omega), isCur_of ha, isCur_of hb, isCur_of hc]
  simp [mx_eq]
theorem PhasesWorst : chargeparklaw05_PhasesWorst.Pure := by
  intro a0 a1 a2 a3 a4 a5 h0 h1 h2 h3 h4 h5
  obtain ⟨a, ea, ha⟩ := amps_ok h0
  obtain ⟨b, eb, hb⟩ := amps_ok h1
  obtain ⟨c, ec, hc⟩ := amps_ok h2
  have h3' := wf_u16 h3
  have h4' := wf_u16 h4
  have h5' := wf_u16 h5
  refine ⟨5, ?_⟩
  unfold chargeparklaw05_PhasesWorst.f
  rw [head_ok 5 (by omega), ea, eb, ec]
  simp only [Option.bind_some]
  rw [worst_ok ha hb hc]
  simp only [Option.bind_some]
  rw [hb_wrap64 (a + 1) (by omega) (by omega), hb_wrap64 (b + 1) (by omega) (by omega), hb_wrap64 (c + 1) (by omega) (by omega), if_neg (by omega), if_neg (by omega), if_neg (by omega)]
  rw [hb_wrap64 a3 (by omega) (by omega), hb_wrap64 a4 (by omega) (by omega), hb_wrap64 a5 (by omega) (by omega), Int.tmod_eq_emod_of_nonneg h3'.1, Int.tmod_eq_emod_of_nonneg h4'.1, Int.tmod_eq_emod_of_nonneg h5'.1]
  have hd0 : 0 ≤ a3 % (a + 1) := Int.emod_nonneg _ (by omega)
  have hd1 : a3 % (a + 1) < a + 1 := Int.emod_lt_of_pos _ (by omega)
  have he0 : 0 ≤ a4 % (b + 1) := Int.emod_nonneg _ (by omega)
  have he1 : a4 % (b + 1) < b + 1 := Int.emod_lt_of_pos _ (by omega)
  have hf0 : 0 ≤ a5 % (c + 1) := Int.emod_nonneg _ (by omega)
  have hf1 : a5 % (c + 1) < c + 1 := Int.emod_lt_of_pos _ (by omega)
  generalize a3 % (a + 1) = d at *
  generalize a4 % (b + 1) = e at *
  generalize a5 % (c + 1) = f at *
  have hd : 0 ≤ d ∧ d ≤ 1000 := by omega
  have he : 0 ≤ e ∧ e ≤ 1000 := by omega
  have hf : 0 ≤ f ∧ f ≤ 1000 := by omega
  have z : (0 : Int) ≤ 0 ∧ (0 : Int) ≤ 1000 := by omega
  rw [neutral_ok hd he hf, neutral_ok ha z z, neutral_ok z hb z, neutral_ok z z hc]
  simp only [Option.bind_some, if_true]
  have q1 := q_small ha z z
  have q2 := q_small z hb z
  have q3 := q_small z z hc
  rw [nn_one ha _ (by unfold qOf; grind) q1, nn_one hb _ (by unfold qOf; grind) q2, nn_one hc _ (by unfold qOf; grind) q3]
  have h := qOf_le (a := d) (b := e) (c := f) (lo := 0) (hi := max (max a b) c) (by omega) (by omega) (by omega)
  rw [Int.sub_zero] at h
  have hle := nn_le (q_small hd he hf) (by omega) h
  have hge := (nn_spec (q_small hd he hf)).1
  rw [if_pos hge, if_pos hle]
  by_cases c1 : a = max (max a b) c
  · rw [if_pos c1]
  · rw [if_neg c1]
    by_cases c2 : b = max (max a b) c
    · rw [if_pos c2]
    · rw [if_neg c2]
      have : c = max (max a b) c := by omega
      rw [if_pos hge, if_pos hle, ← this]; simp

end Go.Proofs.Ytihfcnhiknljpaa.Pure
