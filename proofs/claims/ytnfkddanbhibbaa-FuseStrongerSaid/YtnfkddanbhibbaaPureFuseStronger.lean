/-
A stronger fuse (rated current or heat greater) melts no sooner and holds no shorter, for every fuse and list of currents.
-/
import Derived.Test.YtnfkddanbhibbaaQx21
import Derived.Test.YtnfkddanbhibbaaBfuse
namespace Go.Proofs.Ytnfkddanbhibbaa.Pure
open Go.RowKit Go.Proofs.Ytnfkddanbhibbaa.Q Go.Proofs.YtnfkddanbhibbaaW.PrintWords Go.Proofs.YtnfkddanbhibbaaW.PrintLast Go.Proofs.YtnfkddanbhibbaaW.PrintMore Go.Proofs.Ytnfkddanbhibbaa.Basefuse

theorem exc_le {r r' n : Int} (h1 : 1 ≤ r) (h2 : r ≤ r') : fExc r' n ≤ fExc r n := by
  unfold fExc
  have : r * r ≤ r' * r' := Int.mul_le_mul h2 h2 (by omega) (by omega)
  rw [if_neg (by omega), if_neg (by omega)]; omega
theorem heat_le {r r' : Int} (h1 : 1 ≤ r) (h2 : r ≤ r') (l : List Int) : ∀ i : Nat, i ≤ l.length → fHeatAt r' 0 l i ≤ fHeatAt r 0 l i
  | 0, _ => Int.le_refl 0
  | i + 1, hi => by
    have e := exc_le (n := l.getD i 0) h1 h2
    have a := heat_le h1 h2 l i (by omega)
    rw [fHeat_step r l 0 i hi, fHeat_step r' l 0 i hi]
    unfold fNext; rw [mx_eq, mx_eq]; omega
theorem fMelt_cases (r h : Int) (l : List Int) : (fMelt r h l = none ∧ ∀ j, j < l.length → ¬ h < fHeatAt r 0 l (j + 1)) ∨ ∃ j, j < l.length ∧ fMelt r h l = some j ∧ (∀ j', j' < j → ¬ h < fHeatAt r 0 l (j' + 1)) ∧ h < fHeatAt r 0 l (j + 1) := by
  by_cases c : ∃ j, j < l.length ∧ h < fHeatAt r 0 l (j + 1)
  · right
    have ⟨m, hm, hmin⟩ : ∃ m, (m < l.length ∧ h < fHeatAt r 0 l (m + 1)) ∧ ∀ j, j < m → ¬ h < fHeatAt r 0 l (j + 1) := by
      obtain ⟨j, hj⟩ := c
      induction j using Nat.strongRecOn with
      | _ j ih =>
        by_cases q : ∃ i, i < j ∧ h < fHeatAt r 0 l (i + 1)
        · obtain ⟨i, hi, hi2⟩ := q
          exact ih i hi ⟨by omega, hi2⟩
        · exact ⟨j, hj, fun i hi z => q ⟨i, hi, z⟩⟩
    exact ⟨m, hm.1, fMelt_some hm.1 hmin hm.2, hmin, hm.2⟩
  · left
    have : ∀ j, j < l.length → ¬ h < fHeatAt r 0 l (j + 1) := fun j hj z => c ⟨j, hj, z⟩
    exact ⟨fMelt_none this, this⟩
theorem melt_le {r r' h h' : Int} (h1 : 1 ≤ r) (h2 : r ≤ r') (h3 : h ≤ h') (l : List Int) : meltsVal (fMelt r' h' l) = -1 ∨ (0 ≤ meltsVal (fMelt r h l) ∧ meltsVal (fMelt r h l) ≤ meltsVal (fMelt r' h' l)) := by
  rcases fMelt_cases r' h' l with ⟨e, -⟩ | ⟨j, hj, e, -, hm⟩
  · left; rw [e]; rfl
  · right
    have a := heat_le h1 h2 l (j + 1) hj
    rcases fMelt_cases r h l with ⟨e2, hn⟩ | ⟨i, hi, e2, hmin, hm2⟩
    · exact absurd (show h < fHeatAt r 0 l (j + 1) by omega) (hn j hj)
    · rw [e, e2]
      have : i ≤ j := by
        rcases Nat.lt_or_ge j i with q | q
        · exact absurd (show h < fHeatAt r 0 l (j + 1) by omega) (hmin j q)
        · exact q
      simp only [meltsVal]; omega
theorem FuseStronger : chargeparklaw06_FuseStronger.Pure := by
  intro s a b l c _ _ _ hl _
  obtain ⟨r, h⟩ := s
  refine ⟨3, ?_⟩
  unfold chargeparklaw06_FuseStronger.f
  rw [head_ok]
  simp only [Option.bind_some]
  have T : ∀ k, chargeparklaw06_FuseStronger.j0 (k + 1) a b l c true true r h = some true := fun k => by simp [chargeparklaw06_FuseStronger.j0]
  by_cases c1 : (l.length : Int) > 10000
  · rw [if_pos c1]; exact T _
  rw [if_neg c1]
  by_cases c2 : a < 0
  · rw [if_pos c2]; exact T _
  rw [if_neg c2]
  by_cases c3 : b < 0
  · rw [if_pos c3]; exact T _
  rw [if_neg c3]
  by_cases c4 : r = 0
  · simp only [if_pos c4]; exact T _
  simp only [if_neg c4]
  by_cases c5 : a > 1000
  · rw [if_pos c5]; exact T _
  rw [if_neg c5]
  by_cases c6 : b > 1000000000
  · rw [decide_eq_true c6]; exact T _
  rw [decide_eq_false c6]
  simp only [chargeparklaw06_FuseStronger.j0, Bool.false_eq_true, if_false]
  rw [valid_eq, valid_eq]
  simp only [Option.bind_some]
  cases v1 : okFuse r h
  · simp [chargeparklaw06_FuseStronger.j1]
  rw [if_pos rfl]
  have bd := okFuse_bd v1
  rw [hb_wrap64 (r + a) (by omega) (by omega), hb_wrap64 (h + b) (by omega) (by omega)]
  cases v2 : okFuse (r + a) (h + b)
  · simp [chargeparklaw06_FuseStronger.j1]
  have M := melt_le (r := r) (r' := r + a) (h := h) (h' := h + b) (by omega) (by omega) (by omega) l
  have e := exc_le (n := c) (show 1 ≤ r by omega) (show r ≤ r + a by omega)
  have key : ∃ x y e, fuse_Holds.f r h 0 c = some (x, e) ∧ fuse_Holds.f (r + a) (h + b) 0 c = some (y, e) ∧ (e = 0 → y = -1 ∨ (0 ≤ x ∧ x ≤ y)) := by
    rw [holds_eq, holds_eq]
    have q : okAll r h 0 c = okRange c 0 1000 := by
      unfold okAll; rw [v1, show okRange 0 0 h = true from (okRange_iff _ _ _).2 ⟨by omega, by omega⟩]; rfl
    have q2 : okAll (r + a) (h + b) 0 c = okRange c 0 1000 := by
      unfold okAll; rw [v2, show okRange 0 0 (h + b) = true from (okRange_iff _ _ _).2 ⟨by omega, by omega⟩]; rfl
    rw [q, q2]
    cases okRange c 0 1000
    · exact ⟨0, 0, 1, rfl, rfl, by omega⟩
    · simp only [if_true]
      by_cases z : fExc (r + a) c ≤ 0
      · by_cases z2 : fExc r c ≤ 0
        · exact ⟨-1, -1, 0, by rw [if_pos z2], by rw [if_pos z], fun _ => .inl rfl⟩
        · exact ⟨_, -1, 0, by rw [if_neg z2], by rw [if_pos z], fun _ => .inl rfl⟩
      · refine ⟨_, _, 0, by rw [if_neg (by omega)], by rw [if_neg z], fun _ => .inr ⟨Int.ediv_nonneg (by omega) (by omega), ?_⟩⟩
        apply Int.le_ediv_of_mul_le (by omega)
        have s1 : (h - 0) / fExc r c * fExc r c ≤ h - 0 := Int.ediv_mul_le _ (by omega)
        have s2 : (h - 0) / fExc r c * fExc (r + a) c ≤ (h - 0) / fExc r c * fExc r c := Int.mul_le_mul_of_nonneg_left e (Int.ediv_nonneg (by omega) (by omega))
        omega
  obtain ⟨x, y, er, k1, k2, k3⟩ := key
  have mk : ∃ x' y' e', fuse_Melts.f r h l = some (x', e') ∧ fuse_Melts.f (r + a) (h + b) l = some (y', e') ∧ (e' = 0 → y' = -1 ∨ (0 ≤ x' ∧ x' ≤ y')) := by
    rw [melts_eq, melts_eq, v1, v2]
    simp only [Bool.true_and, if_neg (show ¬ 10000 < l.length by omega)]
    cases l.all fOk
    · exact ⟨0, 0, 1, rfl, rfl, by omega⟩
    · exact ⟨_, _, 0, rfl, rfl, fun _ => M⟩
  obtain ⟨x', y', er', m1, m2, m3⟩ := mk
  simp only [chargeparklaw06_FuseStronger.j1, Bool.not_true, Bool.false_eq_true, if_false]
  rw [m1, m2, k1, k2]
  simp only [Option.bind_some, if_true]
  have hfin : (if er = 0 then if y = -1 then some true else if x ≥ 0 then some (decide (x ≤ y)) else some false else some true) = some true := by
    by_cases z : er = 0
    · rw [if_pos z]
      rcases k3 z with q | q
      · rw [if_pos q]
      · by_cases w : y = -1
        · rw [if_pos w]
        · rw [if_neg w, if_pos q.1, decide_eq_true q.2]
    · rw [if_neg z]
  by_cases z : er' = 0
  · rw [if_pos z]
    by_cases w : y' = -1
    · rw [if_pos w]; exact hfin
    · rw [if_neg w]
      rcases m3 z with q | q
      · exact absurd q w
      · rw [if_pos q.1, if_pos q.2]; exact hfin
  · rw [if_neg z]; exact hfin

end Go.Proofs.Ytnfkddanbhibbaa.Pure
