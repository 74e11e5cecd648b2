/-
For every valid fuse (not the zero one) and every list of at most 200 valid currents the fuse melts at the first tick that ends a burst whose squared excess adds up to more than its heat. Longer lists are not checked.
-/
import Derived.Test.YtnfkddanbhibbaaQx17
import Derived.Test.YtnfkddanbhibbaaBfuse
namespace Go.Proofs.Ytnfkddanbhibbaa.Pure
open Go.RowKit Go.Proofs.Ytnfkddanbhibbaa.Q Go.Proofs.YtnfkddanbhibbaaW.PrintWords Go.Proofs.YtnfkddanbhibbaaW.PrintLast Go.Proofs.YtnfkddanbhibbaaW.PrintMore Go.Proofs.Ytnfkddanbhibbaa.Basefuse

theorem burst_step {r n x : Int} (hr : 0 ≤ r ∧ r ≤ 1000) (hz : r ≠ 0) (hn : 0 ≤ n ∧ n ≤ 1000) (hx : -1000000000 ≤ x ∧ x ≤ 1000000000) :
    wrap64 ((wrap64 (x + (wrap64 (n * n)))) - (wrap64 (r * r))) = x + fExc r n := by
  have a := hb_sq (d := r) 1000 (by omega) (by omega)
  have b := hb_sq (d := n) 1000 (by omega) (by omega)
  unfold fExc
  rw [if_neg hz, hb_wrap64 (n * n) (by omega) (by omega), hb_wrap64 (r * r) (by omega) (by omega), hb_wrap64 (x + n * n) (by omega) (by omega), hb_wrap64 _ (by omega) (by omega)]
  omega
theorem burst_l1 {r h : Int} (l : List Int) (hl : l.length ≤ 200) (hr : 0 ≤ r ∧ r ≤ 1000) (hz : r ≠ 0) (hall : ∀ n ∈ l, 0 ≤ n ∧ n ≤ 1000) (x5 : Bool) (x7 x8 t : Int) :
    ∀ (p K : Nat) (x9 x : Int), p < l.length → -(200 - p) * 1000000 ≤ x + 1000000 ∧ x ≤ (200 - p) * 1000000 →
    chargeparklaw06_FuseBursts.l1 (K + p + 2) l x5 x7 x8 x9 t x p r h = chargeparklaw06_FuseBursts.l0 K l x5 x7 x8 (if h < x + fExc r (l.getD p 0) + fHeatAt r 0 l p then t else x9) (wrap64 (t + 1)) r h := by
  intro p
  induction p with
  | zero =>
    intro K x9 x hp hx
    have hm := hall _ (List.getElem_mem hp)
    rw [← getD_mem hp] at hm
    have BS : wrap64 ((wrap64 (x + (wrap64 (rd l ((0 : Nat) : Int) * rd l ((0 : Nat) : Int))))) - (wrap64 (r * r))) = x + fExc r (l.getD 0 0) := burst_step hr hz hm (by omega)
    rw [show K + 0 + 2 = (K + 1) + 1 by omega, chargeparklaw06_FuseBursts.l1.eq_def]
    simp only [BS]
    rw [if_pos (by omega), if_pos (by omega), if_pos (by omega), hb_wrap64 (((0 : Nat) : Int) - 1) (by omega) (by omega)]
    have e0 : fHeatAt r 0 l 0 = 0 := rfl
    rw [e0, Int.add_zero]
    have E : ∀ x9 x, chargeparklaw06_FuseBursts.l1 (K + 1) l x5 x7 x8 x9 t x (((0 : Nat) : Int) - 1) r h = chargeparklaw06_FuseBursts.l0 K l x5 x7 x8 x9 (wrap64 (t + 1)) r h := by
      intro x9 x
      rw [chargeparklaw06_FuseBursts.l1.eq_def]
      simp only []
      rw [if_neg (by omega)]
    rw [E, E]
    by_cases c : h < x + fExc r (l.getD 0 0)
    · rw [if_pos c, if_pos c]
    · rw [if_neg c, if_neg c]
  | succ p ih =>
    intro K x9 x hp hx
    have hm := hall _ (List.getElem_mem hp)
    rw [← getD_mem hp] at hm
    have hb := fExc_bd hr hm
    rw [show K + (p + 1) + 2 = (K + p + 2) + 1 by omega, fHeat_step r l 0 p (by omega)]
    have BS : wrap64 ((wrap64 (x + (wrap64 (rd l ((p + 1 : Nat) : Int) * rd l ((p + 1 : Nat) : Int))))) - (wrap64 (r * r))) = x + fExc r (l.getD (p + 1) 0) := burst_step hr hz hm (by omega)
    rw [chargeparklaw06_FuseBursts.l1.eq_def]
    simp only [BS]
    rw [if_pos (by omega), if_pos (by omega), if_pos (by omega), hb_wrap64 (((p + 1 : Nat) : Int) - 1) (by omega) (by omega), show ((p + 1 : Nat) : Int) - 1 = p by omega]
    rw [ih K t _ (by omega) (by omega), ih K x9 _ (by omega) (by omega)]
    generalize fExc r (l.getD (p + 1) 0) = e1
    unfold fNext
    rw [mx_eq]
    generalize fExc r (l.getD p 0) = e2
    generalize fHeatAt r 0 l p = e3
    by_cases c : h < x + e1
    · rw [if_pos c, if_pos (show h < x + e1 + max 0 (e3 + e2) by omega)]
      congr 1
      split <;> rfl
    · rw [if_neg c]
      congr 1
      by_cases c2 : h < x + e1 + e2 + e3
      · rw [if_pos c2, if_pos (by omega)]
      · rw [if_neg c2, if_neg (by omega)]
theorem burst_l0 {r h : Int} (l : List Int) (hl : l.length ≤ 200) (hr : 0 ≤ r ∧ r ≤ 1000) (hh : 0 ≤ h) (hz : r ≠ 0) (hall : ∀ n ∈ l, 0 ≤ n ∧ n ≤ 1000) :
    ∀ (d t : Nat), t + d = l.length → (∀ j, j < t → ¬ h < fHeatAt r 0 l (j + 1)) → ∃ k0, ∀ K, k0 ≤ K →
    chargeparklaw06_FuseBursts.l0 K l true (meltsVal (fMelt r h l)) 0 (-1) t r h = some true := by
  intro d
  induction d with
  | zero =>
    intro t ht hno
    refine ⟨2, fun K hK => ?_⟩
    obtain ⟨K, rfl⟩ : ∃ m, K = m + 2 := ⟨K - 2, by omega⟩
    simp only [chargeparklaw06_FuseBursts.l0, chargeparklaw06_FuseBursts.j2]
    rw [if_neg (by omega), fMelt_none (fun j hj => hno j (by omega))]
    simp [meltsVal]
  | succ d ih =>
    intro t ht hno
    have hlt : t < l.length := by omega
    have hs := fHeat_step r l 0 t hlt
    by_cases c : h < fHeatAt r 0 l (t + 1)
    · refine ⟨t + 6, fun K hK => ?_⟩
      obtain ⟨K, rfl⟩ : ∃ m, K = m + 2 + t + 2 + 2 := ⟨K - (t + 6), by omega⟩
      simp only [chargeparklaw06_FuseBursts.l0, chargeparklaw06_FuseBursts.j2]
      rw [if_pos (by omega), if_pos (by decide), show ((t : Int)) = ((t : Nat) : Int) from rfl, burst_l1 l hl hr hz hall true _ 0 t t (K + 2) (-1) 0 hlt (by omega)]
      rw [if_pos (by rw [hs] at c; unfold fNext at c; rw [mx_eq] at c; omega), hb_wrap64 _ (by omega) (by omega)]
      simp only [chargeparklaw06_FuseBursts.l0, chargeparklaw06_FuseBursts.j2]
      rw [fMelt_some hlt hno c, show decide ((t : Int) < 0) = false from decide_eq_false (by omega)]
      simp [meltsVal]
    · obtain ⟨k0, hk0⟩ := ih (t + 1) (by omega) (fun j hj => by
        rcases Nat.lt_or_ge j t with q | q
        · exact hno j q
        · obtain rfl : j = t := by omega
          exact c)
      refine ⟨k0 + t + 4, fun K hK => ?_⟩
      obtain ⟨K, rfl⟩ : ∃ m, K = m + t + 2 + 2 := ⟨K - (t + 4), by omega⟩
      simp only [chargeparklaw06_FuseBursts.l0, chargeparklaw06_FuseBursts.j2]
      rw [if_pos (by omega), if_pos (by decide), burst_l1 l hl hr hz hall true _ 0 t t K (-1) 0 hlt (by omega)]
      rw [if_neg (by rw [hs] at c; unfold fNext at c; rw [mx_eq] at c; omega), hb_wrap64 _ (by omega) (by omega)]
      exact hk0 K (by omega)
theorem FuseBursts : chargeparklaw06_FuseBursts.Pure := by
  intro s l _ hl
  obtain ⟨r, h⟩ := s
  by_cases c : okFuse r h = true ∧ r ≠ 0 ∧ l.length ≤ 200 ∧ ∀ n ∈ l, 0 ≤ n ∧ n ≤ 1000
  · obtain ⟨c, hz, hlen, hall⟩ := c
    have b := okFuse_bd c
    obtain ⟨k0, hk0⟩ := burst_l0 (h := h) l hlen ⟨b.1, b.2.1⟩ b.2.2.1 hz hall l.length 0 (by omega) (fun j hj => by omega)
    have hk1 : ∀ K, k0 ≤ K → chargeparklaw06_FuseBursts.l0 K l true (meltsVal (fMelt r h l)) 0 (-1) 0 r h = some true := hk0
    obtain ⟨K1, hK1⟩ : ∃ K1, K1 = k0 + 300 := ⟨_, rfl⟩
    refine ⟨K1 + 1, ?_⟩
    unfold chargeparklaw06_FuseBursts.f
    rw [head_ok, valid_eq, c]
    simp only [Option.bind_some, if_true]
    rw [if_neg hz, if_neg (by omega), currents_eq l 1000 hl.1 _ (by omega)]
    have hA : (l.all (fun n => okRange n 0 1000) && decide (l.length ≤ 10000)) = true := by
      rw [Bool.and_eq_true, List.all_eq_true, decide_eq_true_eq]
      exact ⟨fun n hn => (okRange_iff _ _ _).2 (hall n hn), by omega⟩
    rw [hA]
    simp only [Option.bind_some, Bool.not_true, chargeparklaw06_FuseBursts.j0, Bool.false_eq_true, if_false]
    rw [melts_eq, if_neg (by omega), if_pos (by rw [c, Bool.true_and, List.all_eq_true]; intro n hn; exact (fOk_iff _).2 (hall n hn))]
    simp only [Option.bind_some]
    exact hk1 _ (by omega)
  · refine ⟨l.length + 3, ?_⟩
    unfold chargeparklaw06_FuseBursts.f
    rw [head_ok, valid_eq]
    simp only [Option.bind_some]
    cases c1 : okFuse r h
    · simp [chargeparklaw06_FuseBursts.j0]
    · rw [if_pos rfl]
      by_cases hz : r = 0
      · rw [if_pos hz]; simp [chargeparklaw06_FuseBursts.j0]
      · rw [if_neg hz]
        by_cases hlen : (l.length : Int) > 200
        · rw [if_pos hlen]; simp [chargeparklaw06_FuseBursts.j0]
        · rw [if_neg hlen, currents_eq l 1000 hl.1 _ (by omega)]
          cases hA : (l.all (fun n => okRange n 0 1000) && decide (l.length ≤ 10000))
          · simp [chargeparklaw06_FuseBursts.j0]
          · rw [Bool.and_eq_true, List.all_eq_true, decide_eq_true_eq] at hA
            exact absurd ⟨c1, hz, by omega, fun n hn => (okRange_iff _ _ _).1 (hA.1 n hn)⟩ c

end Go.Proofs.Ytnfkddanbhibbaa.Pure
