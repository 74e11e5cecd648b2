/-
For every fuse and currents, ticks without current before them only shift the tick in which the fuse melts; and without current the heat sinks, to 0, by the square of the rated current in each tick. For lists of up to 5000 currents and up to 5000 ticks.
-/
import Derived.Test.YtnfkddanbhibbaaQx21
import Derived.Test.YtnfkddanbhibbaaBfuse
namespace Go.Proofs.Ytnfkddanbhibbaa.Pure
open Go.RowKit Go.Proofs.Ytnfkddanbhibbaa.Q Go.Proofs.YtnfkddanbhibbaaW.PrintWords Go.Proofs.YtnfkddanbhibbaaW.PrintLast Go.Proofs.YtnfkddanbhibbaaW.PrintMore Go.Proofs.Ytnfkddanbhibbaa.Basefuse

theorem exc_zero {r : Int} (_hr : 0 ≤ r ∧ r ≤ 1000) : fExc r 0 = -(r * r) := by
  unfold fExc
  split
  · rename_i e; rw [e]; rfl
  · omega
theorem sq_bd {r : Int} (hr : 0 ≤ r ∧ r ≤ 1000) : 0 ≤ r * r ∧ r * r ≤ 1000000 := by
  have := hb_sq (d := r) 1000 (by omega) (by omega); omega
theorem rest_getD (t : Nat) (l : List Int) (i : Nat) : (List.replicate t (0 : Int) ++ l).getD (t + i) 0 = l.getD i 0 := by
  have : ¬ (t + i < t) := by omega
  simp [List.getD_eq_getElem?_getD, List.getElem?_append, this]
theorem rest_getD0 (t : Nat) (l : List Int) (i : Nat) (h : i < t) : (List.replicate t (0 : Int) ++ l).getD i 0 = 0 := by
  simp [List.getD_eq_getElem?_getD, List.getElem?_append, h]
theorem rest_zero {r : Int} (hr : 0 ≤ r ∧ r ≤ 1000) (t : Nat) (l : List Int) : ∀ i : Nat, i ≤ t → fHeatAt r 0 (List.replicate t 0 ++ l) i = 0
  | 0, _ => rfl
  | i + 1, hi => by
    have := sq_bd hr
    rw [fHeat_step r _ 0 i (by rw [List.length_append, List.length_replicate]; omega), rest_zero hr t l i (by omega), rest_getD0 t l i (by omega)]
    unfold fNext; rw [mx_eq, exc_zero hr]; omega
theorem rest_shift {r : Int} (hr : 0 ≤ r ∧ r ≤ 1000) (t : Nat) (l : List Int) : ∀ i : Nat, i ≤ l.length → fHeatAt r 0 (List.replicate t 0 ++ l) (t + i) = fHeatAt r 0 l i
  | 0, _ => by rw [Nat.add_zero, rest_zero hr t l t (Nat.le_refl t)]; rfl
  | i + 1, hi => by
    rw [show t + (i + 1) = t + i + 1 by omega, fHeat_step r _ 0 (t + i) (by rw [List.length_append, List.length_replicate]; omega), rest_shift hr t l i (by omega), rest_getD t l i, fHeat_step r l 0 i hi]
theorem fMelt_cases (r h : Int) (l : List Int) : (fMelt r h l = none ∧ ∀ j, j < l.length → ¬ h < fHeatAt r 0 l (j + 1)) ∨ ∃ j, j < l.length ∧ fMelt r h l = some j ∧ (∀ j', j' < j → ¬ h < fHeatAt r 0 l (j' + 1)) ∧ h < fHeatAt r 0 l (j + 1) := by
  by_cases c : ∃ j, j < l.length ∧ h < fHeatAt r 0 l (j + 1)
  · right
    have ⟨m, hm, hmin⟩ : ∃ m, (m < l.length ∧ h < fHeatAt r 0 l (m + 1)) ∧ ∀ j, j < m → ¬ h < fHeatAt r 0 l (j + 1) := by
      obtain ⟨j, hj⟩ := c
      induction j using Nat.strongRecOn with
      | _ j ih =>
        by_cases q : ∃ i, i < j ∧ h < fHeatAt r 0 l (i + 1)
        · obtain ⟨i, hi, hi2⟩ := q
          exact ih i hi ⟨by omega, hi2⟩
        · exact ⟨j, hj, fun i hi z => q ⟨i, hi, z⟩⟩
    exact ⟨m, hm.1, fMelt_some hm.1 hmin hm.2, hmin, hm.2⟩
  · left
    have : ∀ j, j < l.length → ¬ h < fHeatAt r 0 l (j + 1) := fun j hj z => c ⟨j, hj, z⟩
    exact ⟨fMelt_none this, this⟩
theorem melt_shift {r h : Int} (hr : 0 ≤ r ∧ r ≤ 1000) (hh : 0 ≤ h) (t : Nat) (l : List Int) :
    (meltsVal (fMelt r h l) = -1 ∧ meltsVal (fMelt r h (List.replicate t 0 ++ l)) = -1) ∨ (0 ≤ meltsVal (fMelt r h l) ∧ meltsVal (fMelt r h l) ≤ l.length ∧ meltsVal (fMelt r h (List.replicate t 0 ++ l)) = meltsVal (fMelt r h l) + t) := by
  have hz : ∀ j, j < t → ¬ h < fHeatAt r 0 (List.replicate t 0 ++ l) (j + 1) := fun j hj => by rw [rest_zero hr t l (j + 1) hj]; omega
  rcases fMelt_cases r h l with ⟨e, hn⟩ | ⟨j, hj, e, hmin, hm⟩
  · left
    rw [e, fMelt_none]
    · exact ⟨rfl, rfl⟩
    · intro j hj
      rcases Nat.lt_or_ge j t with q | q
      · exact hz j q
      · obtain ⟨i, rfl⟩ : ∃ i, j = t + i := ⟨j - t, by omega⟩
        rw [List.length_append, List.length_replicate] at hj
        rw [show t + i + 1 = t + (i + 1) by omega, rest_shift hr t l (i + 1) (by omega)]
        exact hn i (by omega)
  · right
    rw [e, fMelt_some (j := t + j) (by rw [List.length_append, List.length_replicate]; omega)]
    · simp only [meltsVal]; omega
    · intro j' hj'
      rcases Nat.lt_or_ge j' t with q | q
      · exact hz j' q
      · obtain ⟨i, rfl⟩ : ∃ i, j' = t + i := ⟨j' - t, by omega⟩
        rw [show t + i + 1 = t + (i + 1) by omega, rest_shift hr t l (i + 1) (by omega)]
        exact hmin i (by omega)
    · rw [show t + j + 1 = t + (j + 1) by omega, rest_shift hr t l (j + 1) (by omega)]
      exact hm
theorem rest_loop {r h n : Int} (hn : n ≤ 5000) (d : Nat) : ∀ (k : Nat) (heat i : Int), 0 ≤ i → i + d = n → d < k → (i = 0 ∨ okAll r h heat 0 = true) →
    chargeparklaw06_FuseRest.l0 k n heat true i r h = some true := by
  induction d with
  | zero =>
    intro k heat i h0 h1 hk _
    obtain ⟨k, rfl⟩ : ∃ m, k = m + 1 := ⟨k - 1, by omega⟩
    simp only [chargeparklaw06_FuseRest.l0]
    rw [if_neg (by omega)]
  | succ d ih =>
    intro k heat i h0 h1 hk hok
    obtain ⟨k, rfl⟩ : ∃ m, k = m + 1 := ⟨k - 1, by omega⟩
    rw [chargeparklaw06_FuseRest.l0.eq_def]
    simp only []
    rw [if_pos (by omega), next_eq]
    by_cases c : okAll r h heat 0 = true
    · obtain ⟨c1, c2, c3⟩ := (okAll_iff _ _ _ _).1 c
      have b := okFuse_bd c1
      have s := sq_bd (r := r) ⟨b.1, b.2.1⟩
      have N : fNext r heat 0 = mx 0 (heat - r * r) := by unfold fNext; rw [exc_zero ⟨b.1, b.2.1⟩]; rfl
      have N' := N
      rw [mx_eq] at N'
      rw [if_pos c]
      simp only [Option.bind_some, if_true]
      rw [hb_wrap64 (r * r) (by omega) (by omega), hb_wrap64 (heat - r * r) (by omega) (by omega), ← N, hb_wrap64 (i + 1) (by omega) (by omega)]
      have nx : okAll r h (fNext r heat 0) 0 = true := (okAll_iff _ _ _ _).2 ⟨c1, by omega, c3⟩
      have G := ih k (fNext r heat 0) (i + 1) (by omega) (by omega) (by omega) (.inr nx)
      rw [show (fNext r heat 0 == fNext r heat 0) = true from beq_self_eq_true _]
      by_cases c4 : fNext r heat 0 < heat
      · rw [if_pos c4]; exact G
      · rw [if_neg c4]
        have : fNext r heat 0 = 0 := by
          rcases (okFuse_iff r h).1 c1 with q | q
          · omega
          · have : 1 * 1 ≤ r * r := Int.mul_le_mul q.1 q.1 (by omega) (by omega)
            omega
        rw [if_pos this]; exact G
    · rw [if_neg c]
      have : i = 0 := by
        rcases hok with q | q
        · exact q
        · exact absurd q c
      simp [this]
theorem FuseRest : chargeparklaw06_FuseRest.Pure := by
  intro s l n heat _ hl _ _
  obtain ⟨r, h⟩ := s
  obtain ⟨K, hK⟩ : ∃ K : Nat, K = n.toNat + 10 := ⟨_, rfl⟩
  refine ⟨K + 2, ?_⟩
  unfold chargeparklaw06_FuseRest.f
  rw [head_ok]
  simp only [Option.bind_some]
  have T : ∀ k, chargeparklaw06_FuseRest.j0 (k + 1) l n heat true true r h = some true := fun k => by simp [chargeparklaw06_FuseRest.j0]
  by_cases c1 : (l.length : Int) > 5000
  · rw [if_pos c1]; exact T _
  rw [if_neg c1]
  by_cases c2 : n < 0
  · rw [if_pos c2]; exact T _
  rw [if_neg c2]
  by_cases c3 : n > 5000
  · rw [decide_eq_true c3]; exact T _
  rw [decide_eq_false c3]
  obtain ⟨t, rfl⟩ := Int.eq_ofNat_of_zero_le (show 0 ≤ n by omega)
  have J : chargeparklaw06_FuseRest.j1 (K + 1) t heat true r h = some true := by
    simp only [chargeparklaw06_FuseRest.j1]
    exact rest_loop (by omega) t K heat 0 (by omega) (by omega) (by omega) (.inl rfl)
  have hall : (List.replicate t (0 : Int) ++ l).all fOk = l.all fOk := by
    rw [List.all_append]
    have : (List.replicate t (0 : Int)).all fOk = true := List.all_eq_true.2 (fun x hx => by rw [(List.mem_replicate.1 hx).2]; decide)
    rw [this, Bool.true_and]
  have hlen : (List.replicate t (0 : Int) ++ l).length = t + l.length := by rw [List.length_append, List.length_replicate]
  have mk : ∃ x y e, fuse_Melts.f r h l = some (x, e) ∧ fuse_Melts.f r h (List.replicate t 0 ++ l) = some (y, e) ∧ (e = 0 → (x = -1 ∧ y = -1) ∨ (0 ≤ x ∧ x ≤ l.length ∧ y = x + t)) := by
    rw [melts_eq, melts_eq, hall, hlen, if_neg (by omega), if_neg (show ¬ 10000 < t + l.length by omega)]
    by_cases c : (okFuse r h && l.all fOk) = true
    · have c' := c
      rw [Bool.and_eq_true] at c'
      have b := okFuse_bd c'.1
      rw [if_pos c, if_pos c]
      exact ⟨_, _, 0, rfl, rfl, fun _ => melt_shift ⟨b.1, b.2.1⟩ b.2.2.1 t l⟩
    · rw [if_neg c, if_neg c]; exact ⟨_, _, 1, rfl, rfl, by omega⟩
  obtain ⟨x, y, e, m1, m2, m3⟩ := mk
  rw [chargeparklaw06_FuseRest.j0.eq_def]
  dsimp only
  rw [if_neg (by decide), m1, Option.bind_some, if_pos (by omega), hb_wrap64 ((t : Int) + l.length) (by omega) (by omega), if_pos (by omega), if_pos (by omega), Int.toNat_natCast, Option.bind_some, if_pos (by rw [List.length_replicate]; omega), m2, Option.bind_some, if_pos rfl]
  dsimp only
  rw [if_pos (show e = e from rfl)]
  by_cases z : e = 0
  · rw [if_pos z]
    rcases m3 z with ⟨q1, q2⟩ | ⟨q1, q2, q3⟩
    · rw [if_pos q1, if_pos q2]; exact J
    · rw [if_neg (by omega), if_pos q1, hb_wrap64 (x + t) (by omega) (by omega), show (y == x + t) = true from by rw [q3]; exact beq_self_eq_true _]
      exact J
  · rw [if_neg z]; exact J

end Go.Proofs.Ytnfkddanbhibbaa.Pure
