/-
If currents are added, the neutral conductor carries at most the sum of what it carries for each of them. For every six numbers of 16 bits, without conditions.
-/
import Derived.Test.YtihfcnhiknljpaaQx7
import Derived.Test.YtihfcnhiknljpaaBphases
namespace Go.Proofs.Ytihfcnhiknljpaa.Pure
open Go.RowKit Go.Proofs.Ytihfcnhiknljpaa.Q Go.Proofs.YtihfcnhiknljpaaW.PrintWords Go.Proofs.YtihfcnhiknljpaaW.PrintLast Go.Proofs.YtihfcnhiknljpaaW.PrintMore Go.Proofs.Ytihfcnhiknljpaa.Basephases

theorem cauchy (x y z u v w : Int) : (x * u + y * v + z * w) * (x * u + y * v + z * w) ≤ (x * x + y * y + z * z) * (u * u + v * v + w * w) := by
  have h1 := sq_nonneg (x * v - y * u)
  have h2 := sq_nonneg (y * w - z * v)
  have h3 := sq_nonneg (z * u - x * w)
  grind
theorem q_add (a b c d e f n m : Int) (hn : 0 ≤ n) (hm : 0 ≤ m) (h1 : qOf a b c ≤ 2 * (n * n)) (h2 : qOf d e f ≤ 2 * (m * m)) :
    qOf (a + d) (b + e) (c + f) ≤ 2 * ((n + m) * (n + m)) := by
  have hc := cauchy (a - b) (b - c) (c - a) (d - e) (e - f) (f - d)
  have e1 : qOf (a + d) (b + e) (c + f) = qOf a b c + qOf d e f + 2 * ((a - b) * (d - e) + (b - c) * (e - f) + (c - a) * (f - d)) := by unfold qOf; grind
  have hq1 := qOf_nonneg a b c
  have hq2 := qOf_nonneg d e f
  unfold qOf at h1 h2 hq1 hq2
  have hp := Int.mul_le_mul h1 h2 hq2 (by have := sq_nonneg n; omega)
  rw [e1]
  unfold qOf
  generalize (a - b) * (d - e) + (b - c) * (e - f) + (c - a) * (f - d) = B at *
  have hB : B ≤ 2 * (n * m) := by
    rcases Int.lt_or_le (2 * (n * m)) B with g | g
    · have hnm := Int.mul_nonneg hn hm
      have := mul_mono (show 0 ≤ 2 * (n * m) + 1 by omega) (show 2 * (n * m) + 1 ≤ B by omega)
      have e3 : (2 * (n * m) + 1) * (2 * (n * m) + 1) = 2 * (n * n) * (2 * (m * m)) + 4 * (n * m) + 1 := by grind
      omega
    · exact g
  have e2 : (n + m) * (n + m) = n * n + m * m + 2 * (n * m) := by grind
  omega
theorem PhasesSums : chargeparklaw05_PhasesSums.Pure := by
  intro a0 a1 a2 a3 a4 a5 h0 h1 h2 h3 h4 h5
  obtain ⟨a, ea, ha⟩ := amps_ok h0
  obtain ⟨b, eb, hb⟩ := amps_ok h1
  obtain ⟨c, ec, hc⟩ := amps_ok h2
  have h3' := wf_u16 h3
  have h4' := wf_u16 h4
  have h5' := wf_u16 h5
  refine ⟨5, ?_⟩
  unfold chargeparklaw05_PhasesSums.f
  rw [head_ok 5 (by omega), ea, eb, ec]
  simp only [Option.bind_some]
  rw [hb_wrap64 (1001 - a) (by omega) (by omega), hb_wrap64 (1001 - b) (by omega) (by omega), hb_wrap64 (1001 - c) (by omega) (by omega), if_neg (by omega), if_neg (by omega), if_neg (by omega)]
  rw [hb_wrap64 a3 (by omega) (by omega), hb_wrap64 a4 (by omega) (by omega), hb_wrap64 a5 (by omega) (by omega), Int.tmod_eq_emod_of_nonneg h3'.1, Int.tmod_eq_emod_of_nonneg h4'.1, Int.tmod_eq_emod_of_nonneg h5'.1]
  have hd0 : 0 ≤ a3 % (1001 - a) := Int.emod_nonneg _ (by omega)
  have hd1 : a3 % (1001 - a) < 1001 - a := Int.emod_lt_of_pos _ (by omega)
  have he0 : 0 ≤ a4 % (1001 - b) := Int.emod_nonneg _ (by omega)
  have he1 : a4 % (1001 - b) < 1001 - b := Int.emod_lt_of_pos _ (by omega)
  have hf0 : 0 ≤ a5 % (1001 - c) := Int.emod_nonneg _ (by omega)
  have hf1 : a5 % (1001 - c) < 1001 - c := Int.emod_lt_of_pos _ (by omega)
  generalize a3 % (1001 - a) = d at *
  generalize a4 % (1001 - b) = e at *
  generalize a5 % (1001 - c) = f at *
  rw [hb_wrap64 (a + d) (by omega) (by omega), hb_wrap64 (b + e) (by omega) (by omega), hb_wrap64 (c + f) (by omega) (by omega)]
  have hd : 0 ≤ d ∧ d ≤ 1000 := by omega
  have he : 0 ≤ e ∧ e ≤ 1000 := by omega
  have hf : 0 ≤ f ∧ f ≤ 1000 := by omega
  rw [neutral_ok ha hb hc, neutral_ok hd he hf, neutral_ok (by omega) (by omega) (by omega)]
  simp only [Option.bind_some, if_true]
  obtain ⟨n0, n1, n2, n3⟩ := nn_spec (q_small ha hb hc)
  obtain ⟨m0, m1, m2, m3⟩ := nn_spec (q_small hd he hf)
  have hs := q_small (a := a + d) (b := b + e) (c := c + f) (by omega) (by omega) (by omega)
  obtain ⟨s0, s1, s2, s3⟩ := nn_spec hs
  rw [if_pos n0, if_pos m0, if_pos s0, hb_wrap64 _ (by omega) (by omega)]
  have := nn_le hs (by omega) (q_add a b c d e f _ _ n0 m0 n2 m2)
  simpa using this

end Go.Proofs.Ytihfcnhiknljpaa.Pure
