/-
For every valid fuse, heat and current, the fuse is whole after as many ticks as Holds says, up to 5000, and melts in the next one; if it holds for ever, the heat does not increase. For every fuse, heat and current, without conditions.
-/
import Derived.Test.YtnfkddanbhibbaaQx19
import Derived.Test.YtnfkddanbhibbaaBfuse
namespace Go.Proofs.Ytnfkddanbhibbaa.Pure
open Go.RowKit Go.Proofs.Ytnfkddanbhibbaa.Q Go.Proofs.YtnfkddanbhibbaaW.PrintWords Go.Proofs.YtnfkddanbhibbaaW.PrintLast Go.Proofs.YtnfkddanbhibbaaW.PrintMore Go.Proofs.Ytnfkddanbhibbaa.Basefuse

theorem holds_loop {r h a : Int} (hf : okFuse r h = true) (ha : 0 ≤ a ∧ a ≤ 1000) (he : 0 < fExc r a) (n : Int) (hn : n ≤ 5000) (d : Nat) : ∀ (k : Nat) (heat i : Int), 0 ≤ i → i + d = n → d < k → 0 ≤ heat → heat ≤ h →
    heat + d * fExc r a ≤ h → h < heat + (d + 1) * fExc r a → chargeparklaw06_FuseHolds.l0 k heat a true n i r h = some true := by
  have b := okFuse_bd hf
  have bx := fExc_bd ⟨b.1, b.2.1⟩ ha
  induction d with
  | zero =>
    intro k heat i h0 h1 hk g0 g1 g2 g3
    obtain ⟨k, rfl⟩ : ∃ m, k = m + 1 := ⟨k - 1, by omega⟩
    simp only [chargeparklaw06_FuseHolds.l0]
    rw [if_neg (by omega), next_eq, if_pos ((okAll_iff _ _ _ _).2 ⟨hf, ⟨g0, g1⟩, ha⟩)]
    simp only [Option.bind_some, if_true]
    have : h < fNext r heat a := by unfold fNext; rw [mx_eq]; simp at g3; omega
    simpa using this
  | succ d ih =>
    intro k heat i h0 h1 hk g0 g1 g2 g3
    obtain ⟨k, rfl⟩ : ∃ m, k = m + 1 := ⟨k - 1, by omega⟩
    simp only [chargeparklaw06_FuseHolds.l0]
    rw [if_pos (by omega), next_eq, if_pos ((okAll_iff _ _ _ _).2 ⟨hf, ⟨g0, g1⟩, ha⟩)]
    simp only [Option.bind_some, if_true]
    have e1 : fNext r heat a = heat + fExc r a := by unfold fNext; rw [mx_eq]; omega
    have e2 : ((d + 1 : Nat) : Int) * fExc r a = d * fExc r a + fExc r a := by rw [Int.natCast_add, Int.add_mul]; simp
    have e3 : (((d + 1 : Nat) : Int) + 1) * fExc r a = (d + 1) * fExc r a + fExc r a := by rw [Int.natCast_add, Int.add_mul]; simp
    have hd : 0 ≤ (d : Int) * fExc r a := Int.mul_nonneg (by omega) (by omega)
    rw [e2] at g2
    rw [e3] at g3
    rw [e1, if_neg (by omega), hb_wrap64 _ (by omega) (by omega)]
    exact ih k _ (i + 1) (by omega) (by omega) (by omega) (by omega) (by omega) (by omega) (by omega)
theorem FuseHolds : chargeparklaw06_FuseHolds.Pure := by
  intro s heat a _ _ _
  obtain ⟨r, h⟩ := s
  refine ⟨5003, ?_⟩
  unfold chargeparklaw06_FuseHolds.f
  rw [head_ok, holds_eq]
  simp only [Option.bind_some]
  cases c : okAll r h heat a
  · simp [chargeparklaw06_FuseHolds.j0]
  · obtain ⟨c1, c2, c3⟩ := (okAll_iff _ _ _ _).1 c
    have b := okFuse_bd c1
    simp only [if_true]
    by_cases e : fExc r a ≤ 0
    · rw [if_pos e]
      simp only [Option.bind_some, if_true, chargeparklaw06_FuseHolds.j0]
      rw [next_eq, c]
      have : fNext r heat a ≤ heat := by unfold fNext; rw [mx_eq]; omega
      simpa using this
    · rw [if_neg e]
      simp only [Option.bind_some, if_true, chargeparklaw06_FuseHolds.j0]
      have h1 : 0 ≤ (h - heat) / fExc r a := Int.ediv_nonneg (by omega) (by omega)
      by_cases e2 : (h - heat) / fExc r a > 5000
      · simp [e2]
      · rw [if_neg (by simpa using e2), if_neg (by omega)]
        obtain ⟨d, hd⟩ := Int.eq_ofNat_of_zero_le h1
        have q1 : (h - heat) / fExc r a * fExc r a ≤ h - heat := Int.ediv_mul_le _ (by omega)
        have q2 : h - heat < ((h - heat) / fExc r a + 1) * fExc r a := Int.lt_ediv_add_one_mul_self _ (by omega)
        refine holds_loop c1 c3 (by omega) _ (by omega) d 5002 heat 0 (by omega) (by omega) (by omega) c2.1 c2.2 ?_ ?_
        · rw [hd] at q1; omega
        · rw [hd] at q2; omega

end Go.Proofs.Ytnfkddanbhibbaa.Pure
