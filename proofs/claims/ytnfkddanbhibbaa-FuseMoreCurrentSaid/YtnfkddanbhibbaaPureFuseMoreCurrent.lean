/-
For every fuse, with currents that are nowhere less, and from a heat that is not less, the heat after a tick is not less, and the fuse melts no later. For lists of up to 10000 currents of at most 700, each raised by at most 255.
-/
import Derived.Test.YtnfkddanbhibbaaQx18
import Derived.Test.YtnfkddanbhibbaaBfuse
namespace Go.Proofs.Ytnfkddanbhibbaa.Pure
open Go.RowKit Go.Proofs.Ytnfkddanbhibbaa.Q Go.Proofs.YtnfkddanbhibbaaW.PrintWords Go.Proofs.YtnfkddanbhibbaaW.PrintLast Go.Proofs.YtnfkddanbhibbaaW.PrintMore Go.Proofs.Ytnfkddanbhibbaa.Basefuse

theorem exc_up {r n n' : Int} (h0 : 0 ≤ n) (h1 : n ≤ n') : fExc r n ≤ fExc r n' := by
  unfold fExc
  have : n * n ≤ n' * n' := Int.mul_le_mul h1 h1 h0 (by omega)
  split <;> omega
theorem heat_up {r : Int} (l m : List Int) (hlen : m.length = l.length) (hm : ∀ i, i < l.length → 0 ≤ l.getD i 0 ∧ l.getD i 0 ≤ m.getD i 0) : ∀ i : Nat, i ≤ l.length → fHeatAt r 0 l i ≤ fHeatAt r 0 m i
  | 0, _ => Int.le_refl 0
  | i + 1, hi => by
    have e := exc_up (r := r) (hm i hi).1 (hm i hi).2
    have a := heat_up (r := r) l m hlen hm i (by omega)
    rw [fHeat_step r l 0 i hi, fHeat_step r m 0 i (by omega)]
    unfold fNext; rw [mx_eq, mx_eq]; omega
theorem fMelt_cases (r h : Int) (l : List Int) : (fMelt r h l = none ∧ ∀ j, j < l.length → ¬ h < fHeatAt r 0 l (j + 1)) ∨ ∃ j, j < l.length ∧ fMelt r h l = some j ∧ (∀ j', j' < j → ¬ h < fHeatAt r 0 l (j' + 1)) ∧ h < fHeatAt r 0 l (j + 1) := by
  by_cases c : ∃ j, j < l.length ∧ h < fHeatAt r 0 l (j + 1)
  · right
    have ⟨m, hm, hmin⟩ : ∃ m, (m < l.length ∧ h < fHeatAt r 0 l (m + 1)) ∧ ∀ j, j < m → ¬ h < fHeatAt r 0 l (j + 1) := by
      obtain ⟨j, hj⟩ := c
      induction j using Nat.strongRecOn with
      | _ j ih =>
        by_cases q : ∃ i, i < j ∧ h < fHeatAt r 0 l (i + 1)
        · obtain ⟨i, hi, hi2⟩ := q
          exact ih i hi ⟨by omega, hi2⟩
        · exact ⟨j, hj, fun i hi z => q ⟨i, hi, z⟩⟩
    exact ⟨m, hm.1, fMelt_some hm.1 hmin hm.2, hmin, hm.2⟩
  · left
    have : ∀ j, j < l.length → ¬ h < fHeatAt r 0 l (j + 1) := fun j hj z => c ⟨j, hj, z⟩
    exact ⟨fMelt_none this, this⟩
theorem melt_up {r h : Int} (l m : List Int) (hlen : m.length = l.length) (hm : ∀ i, i < l.length → 0 ≤ l.getD i 0 ∧ l.getD i 0 ≤ m.getD i 0) : meltsVal (fMelt r h l) = -1 ∨ (0 ≤ meltsVal (fMelt r h m) ∧ meltsVal (fMelt r h m) ≤ meltsVal (fMelt r h l)) := by
  rcases fMelt_cases r h l with ⟨e, -⟩ | ⟨j, hj, e, -, hmj⟩
  · left; rw [e]; rfl
  · right
    have a := heat_up (r := r) l m hlen hm (j + 1) hj
    rcases fMelt_cases r h m with ⟨e2, hn⟩ | ⟨i, hi, e2, hmin, hm2⟩
    · exact absurd (show h < fHeatAt r 0 m (j + 1) by omega) (hn j (by omega))
    · rw [e, e2]
      have : i ≤ j := by
        rcases Nat.lt_or_ge j i with q | q
        · exact absurd (show h < fHeatAt r 0 m (j + 1) by omega) (hmin j q)
        · exact q
      simp only [meltsVal]; omega
theorem more_end {r h heat hot : Int} (l x2 m : List Int) (k : Nat) (hl0 : 0 < l.length) (hl : l.length ≤ 10000) (hlen : m.length = l.length) (hm : ∀ i, i < l.length → 0 ≤ l.getD i 0 ∧ l.getD i 0 ≤ m.getD i 0)
    (hA : ∀ n ∈ l, 0 ≤ n ∧ n ≤ 1000) (hB : ∀ n ∈ m, 0 ≤ n ∧ n ≤ 1000) (hh : 0 ≤ heat ∧ heat ≤ 1000000000) (ht : 0 ≤ hot ∧ hot ≤ 1000000000) :
    chargeparklaw06_FuseMoreCurrent.l0 (k + 3) l x2 heat hot true m l.length r h = some true := by
  have M := melt_up (r := r) (h := h) l m hlen hm
  have mk : ∃ x y e, fuse_Melts.f r h l = some (x, e) ∧ fuse_Melts.f r h m = some (y, e) ∧ (e = 0 → x = -1 ∨ (0 ≤ y ∧ y ≤ x)) := by
    rw [melts_eq, melts_eq, hlen, show l.all fOk = true from List.all_eq_true.2 (fun n hn => (fOk_iff n).2 (hA n hn)), show m.all fOk = true from List.all_eq_true.2 (fun n hn => (fOk_iff n).2 (hB n hn))]
    simp only [if_neg (show ¬ 10000 < l.length by omega), Bool.and_true]
    cases okFuse r h
    · exact ⟨0, 0, 1, rfl, rfl, by omega⟩
    · exact ⟨_, _, 0, rfl, rfl, fun _ => M⟩
  obtain ⟨x, y, e, m1, m2, m3⟩ := mk
  have nk : ∃ a b e1 e2, fuse_Next.f r h heat (rd l 0) = some (a, e1) ∧ fuse_Next.f r h (heat + hot) (rd m 0) = some (b, e2) ∧ (e1 = 0 → e2 = 0 → a ≤ b) := by
    rw [next_eq, next_eq]
    by_cases c1 : okAll r h heat (rd l 0) = true
    · by_cases c2 : okAll r h (heat + hot) (rd m 0) = true
      · rw [if_pos c1, if_pos c2]
        refine ⟨_, _, 0, 0, rfl, rfl, fun _ _ => ?_⟩
        have g := hm 0 hl0
        have e := exc_up (r := r) g.1 g.2
        show fNext r heat (l.getD 0 0) ≤ fNext r (heat + hot) (m.getD 0 0)
        unfold fNext; rw [mx_eq, mx_eq]; omega
      · rw [if_pos c1, if_neg c2]; exact ⟨_, _, 0, 1, rfl, rfl, by omega⟩
    · rw [if_neg c1]
      by_cases c2 : okAll r h (heat + hot) (rd m 0) = true
      · rw [if_pos c2]; exact ⟨_, _, 1, 0, rfl, rfl, by omega⟩
      · rw [if_neg c2]; exact ⟨_, _, 1, 1, rfl, rfl, by omega⟩
  obtain ⟨a, b, e1, e2, n1, n2, n3⟩ := nk
  have J : ∀ k, chargeparklaw06_FuseMoreCurrent.j2 (k + 2) true a e1 b e2 = some true := by
    intro k
    simp only [chargeparklaw06_FuseMoreCurrent.j2, chargeparklaw06_FuseMoreCurrent.j3, if_true]
    by_cases z1 : e1 = 0
    · rw [if_pos z1]
      by_cases z2 : e2 = 0
      · rw [if_pos z2, decide_eq_true (n3 z1 z2)]
      · rw [if_neg z2]
    · rw [if_neg z1]
  rw [chargeparklaw06_FuseMoreCurrent.l0.eq_def]
  simp only []
  rw [if_neg (show ¬ ((l.length : Nat) : Int) < (l.length : Int) by omega), m1, m2, hb_wrap64 (heat + hot) (by omega) (by omega)]
  simp only [Option.bind_some]
  rw [if_pos (by omega), n1]
  simp only [Option.bind_some]
  rw [if_pos (by omega), n2]
  simp only [Option.bind_some, if_true]
  by_cases z : e = 0
  · rw [if_pos z]
    by_cases w : x = -1
    · rw [if_pos w]; exact J _
    · rw [if_neg w]
      rcases m3 z with q | q
      · exact absurd q w
      · rw [if_pos q.1, decide_eq_true q.2]; exact J _
  · rw [if_neg z]; exact J _
theorem more_loop {r h heat hot : Int} (l x2 m : List Int) (hl0 : 0 < l.length) (hl : l.length ≤ 10000) (hx2 : l.length ≤ x2.length) (hlen : m.length = l.length) (hm : ∀ i, i < l.length → m.getD i 0 = l.getD i 0 + x2.getD i 0 ∧ 0 ≤ l.getD i 0 ∧ l.getD i 0 ≤ 700 ∧ 0 ≤ x2.getD i 0 ∧ x2.getD i 0 ≤ 255)
    (hh : 0 ≤ heat ∧ heat ≤ 1000000000) (ht : 0 ≤ hot ∧ hot ≤ 1000000000) (d : Nat) : ∀ (t k : Nat), t + d = l.length → d + 3 ≤ k →
    chargeparklaw06_FuseMoreCurrent.l0 k l x2 heat hot true (m.take t) t r h = some true := by
  induction d with
  | zero =>
    intro t k h1 hk
    obtain ⟨k, rfl⟩ : ∃ m, k = m + 3 := ⟨k - 3, by omega⟩
    obtain rfl : t = l.length := by omega
    rw [List.take_of_length_le (by omega)]
    refine more_end l x2 m k hl0 hl hlen (fun i hi => by have := hm i hi; omega) ?_ ?_ hh ht
    · intro n hn
      obtain ⟨i, hi, rfl⟩ := List.getElem_of_mem hn
      have := hm i hi
      rw [getD_mem hi] at this; omega
    · intro n hn
      obtain ⟨i, hi, rfl⟩ := List.getElem_of_mem hn
      have := hm i (by omega)
      rw [getD_mem hi] at this; omega
  | succ d ih =>
    intro t k h1 hk
    obtain ⟨k, rfl⟩ : ∃ m, k = m + 1 := ⟨k - 1, by omega⟩
    have hlt : t < l.length := by omega
    have g := hm t hlt
    rw [chargeparklaw06_FuseMoreCurrent.l0.eq_def]
    simp only []
    have R : wrap64 (rd l (t : Int) + wrap64 (rd x2 (t : Int))) = m[t]'(by omega) := by
      show wrap64 (l.getD t 0 + wrap64 (x2.getD t 0)) = _
      rw [hb_wrap64 (x2.getD t 0) (by omega) (by omega), hb_wrap64 _ (by omega) (by omega), ← g.1]
      exact getD_mem (by omega)
    rw [if_pos (by omega), if_pos (by omega), if_pos (by omega), if_pos (by rw [List.length_take]; omega), R, ← List.take_succ_eq_append_getElem (by omega), hb_wrap64 _ (by omega) (by omega), show (t : Int) + 1 = ((t + 1 : Nat) : Int) by omega]
    exact ih (t + 1) k (by omega) (by omega)
theorem FuseMoreCurrent : chargeparklaw06_FuseMoreCurrent.Pure := by
  intro s l x2 heat hot _ hl hx _ _
  obtain ⟨r, h⟩ := s
  refine ⟨l.length + 10, ?_⟩
  unfold chargeparklaw06_FuseMoreCurrent.f
  rw [head_ok]
  simp only [Option.bind_some]
  have T : ∀ k, chargeparklaw06_FuseMoreCurrent.j0 (k + 1) l x2 heat hot true true r h = some true := fun k => by simp [chargeparklaw06_FuseMoreCurrent.j0]
  by_cases c1 : (l.length : Int) > 10000
  · rw [if_pos c1]; exact T _
  rw [if_neg c1]
  by_cases c2 : (x2.length : Int) < l.length
  · rw [if_pos c2]; exact T _
  rw [if_neg c2]
  by_cases c3 : (l.length : Int) = 0
  · rw [if_pos c3]; exact T _
  rw [if_neg c3]
  by_cases c4 : hot < 0
  · rw [if_pos c4]; exact T _
  rw [if_neg c4]
  by_cases c5 : hot > 1000000000
  · rw [if_pos c5]; exact T _
  rw [if_neg c5]
  by_cases c6 : heat < 0
  · rw [if_pos c6]; exact T _
  rw [if_neg c6]
  by_cases c7 : heat > 1000000000
  · rw [if_pos c7]; exact T _
  rw [if_neg c7, currents_eq l 700 hl.1 _ (by omega)]
  simp only [Option.bind_some]
  cases hA : (l.all (fun n => okRange n 0 700) && decide (l.length ≤ 10000))
  · exact T _
  rw [Bool.and_eq_true, List.all_eq_true, decide_eq_true_eq] at hA
  have hall : ∀ n ∈ l, 0 ≤ n ∧ n ≤ 700 := fun n hn => (okRange_iff _ _ _).1 (hA.1 n hn)
  simp only [chargeparklaw06_FuseMoreCurrent.j0, Bool.not_true, Bool.false_eq_true, if_false]
  refine more_loop l x2 ((List.range l.length).map fun i => l.getD i 0 + x2.getD i 0) (by omega) hA.2 (by omega) (by simp) (fun i hi => ?_) (by omega) (by omega) l.length 0 _ (by omega) (by omega)
  have i2 : i < x2.length := by omega
  have a := hall _ (List.getElem_mem hi)
  have b := wf_u8 (hx.2 _ (List.getElem_mem i2))
  rw [← getD_mem hi] at a
  rw [← getD_mem i2] at b
  refine ⟨?_, a.1, a.2, b.1, by omega⟩
  rw [getD_mem (by simpa using hi)]
  simp

end Go.Proofs.Ytnfkddanbhibbaa.Pure
