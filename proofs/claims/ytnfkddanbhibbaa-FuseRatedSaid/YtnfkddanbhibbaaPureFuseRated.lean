/-
No valid list of currents within the rated current melts a fuse, whatever the length of time, and no tick increases the heat. For every fuse, heat and list of currents, without conditions.
-/
import Derived.Test.YtnfkddanbhibbaaQx16
import Derived.Test.YtnfkddanbhibbaaBfuse
namespace Go.Proofs.Ytnfkddanbhibbaa.Pure
open Go.RowKit Go.Proofs.Ytnfkddanbhibbaa.Q Go.Proofs.YtnfkddanbhibbaaW.PrintWords Go.Proofs.YtnfkddanbhibbaaW.PrintLast Go.Proofs.YtnfkddanbhibbaaW.PrintMore Go.Proofs.Ytnfkddanbhibbaa.Basefuse

theorem fExc_rated {r n : Int} (h0 : 0 ≤ n) (h1 : n ≤ r) : fExc r n ≤ 0 := by
  unfold fExc
  have : n * n ≤ r * r := Int.mul_le_mul h1 h1 h0 (by omega)
  split <;> omega
theorem rated_heat {r : Int} (l : List Int) (hall : ∀ n ∈ l, 0 ≤ n ∧ n ≤ r) : ∀ i : Nat, i ≤ l.length → fHeatAt r 0 l i = 0
  | 0, _ => rfl
  | i + 1, hi => by
    have hlt : i < l.length := hi
    have hm := hall _ (List.getElem_mem hlt)
    have := fExc_rated hm.1 hm.2
    rw [fHeat_step r l 0 i hlt, rated_heat l hall i (by omega), getD_mem hlt]
    unfold fNext; rw [mx_eq]; omega
theorem rated_loop {r h : Int} (l : List Int) (hl : l.length ≤ 10000) (hall : ∀ n ∈ l, 0 ≤ n ∧ n ≤ r) (d : Nat) : ∀ (k : Nat) (heat i : Int), 0 ≤ i → i + d = l.length → d < k →
    chargeparklaw06_FuseRated.l0 k heat l true (-1) 0 i r h = some true := by
  induction d with
  | zero =>
    intro k heat i h0 h1 hk
    obtain ⟨k, rfl⟩ : ∃ m, k = m + 1 := ⟨k - 1, by omega⟩
    simp only [chargeparklaw06_FuseRated.l0]
    rw [if_neg (by omega)]
    simp
  | succ d ih =>
    intro k heat i h0 h1 hk
    obtain ⟨k, rfl⟩ : ∃ m, k = m + 1 := ⟨k - 1, by omega⟩
    simp only [chargeparklaw06_FuseRated.l0]
    have hlt : i.toNat < l.length := by omega
    have hm := hall _ (List.getElem_mem hlt)
    rw [if_pos (by omega), if_pos h0, rd_getD, getD_mem hlt, next_eq, hb_wrap64 _ (by omega) (by omega)]
    cases c : okAll r h heat l[i.toNat]
    · simp only [if_false, Bool.false_eq_true, Option.bind_some, if_true]
      rw [if_neg (by decide)]
      exact ih k heat (i + 1) (by omega) (by omega) (by omega)
    · obtain ⟨c1, c2, c3⟩ := (okAll_iff _ _ _ _).1 c
      have e := fExc_rated hm.1 hm.2
      have : fNext r heat l[i.toNat] ≤ heat := by unfold fNext; rw [mx_eq]; omega
      simp only [Option.bind_some, if_true, decide_eq_true this]
      exact ih k _ (i + 1) (by omega) (by omega) (by omega)
theorem FuseRated : chargeparklaw06_FuseRated.Pure := by
  intro s heat l _ _ hl
  obtain ⟨r, h⟩ := s
  refine ⟨l.length + 3, ?_⟩
  unfold chargeparklaw06_FuseRated.f
  rw [head_ok, valid_eq]
  simp only [Option.bind_some]
  cases c : okFuse r h
  · simp [chargeparklaw06_FuseRated.j0]
  · rw [if_pos rfl, currents_eq l r hl.1 _ (by omega)]
    simp only [Option.bind_some]
    cases c2 : (l.all (fun n => okRange n 0 r) && decide (l.length ≤ 10000))
    · simp [chargeparklaw06_FuseRated.j0]
    · rw [Bool.and_eq_true, List.all_eq_true, decide_eq_true_eq] at c2
      have hall : ∀ n ∈ l, 0 ≤ n ∧ n ≤ r := fun n hn => (okRange_iff _ _ _).1 (c2.1 n hn)
      have b := okFuse_bd c
      simp only [chargeparklaw06_FuseRated.j0, Bool.not_true, Bool.false_eq_true, if_false]
      rw [melts_eq, if_neg (by omega), if_pos (by rw [c, Bool.true_and, List.all_eq_true]; intro n hn; have := hall n hn; rw [fOk_iff]; omega)]
      rw [fMelt_none (fun j hj => by rw [rated_heat l hall (j + 1) hj]; omega)]
      exact rated_loop l c2.2 hall l.length _ heat 0 (by omega) (by omega) (by omega)

end Go.Proofs.Ytnfkddanbhibbaa.Pure
