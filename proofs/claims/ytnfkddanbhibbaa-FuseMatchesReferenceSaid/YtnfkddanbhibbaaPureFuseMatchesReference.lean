/-
For every fuse, heat, list of at most 12000 currents and current the package answers as the reference does. Longer lists are not compared.
-/
import Derived.Test.YtnfkddanbhibbaaQx14
import Derived.Test.YtnfkddanbhibbaaBfuse
namespace Go.Proofs.Ytnfkddanbhibbaa.Pure
open Go.RowKit Go.Proofs.Ytnfkddanbhibbaa.Q Go.Proofs.YtnfkddanbhibbaaW.PrintWords Go.Proofs.YtnfkddanbhibbaaW.PrintLast Go.Proofs.YtnfkddanbhibbaaW.PrintMore Go.Proofs.Ytnfkddanbhibbaa.Basefuse

theorem more_eq {r h n : Int} (hr : 0 ≤ r ∧ r ≤ 1000) (hn : 0 ≤ n ∧ n ≤ 1000) : chargeparkref06_More.f r h n = some (fExc r n) := by
  have a := hb_sq (d := r) 1000 (by omega) (by omega)
  have b := hb_sq (d := n) 1000 (by omega) (by omega)
  unfold chargeparkref06_More.f fExc
  by_cases e : r = 0
  · rw [if_pos e, if_pos e]
  · rw [if_neg e, if_neg e, hb_wrap64 (n * n) (by omega) (by omega), hb_wrap64 (r * r) (by omega) (by omega), hb_wrap64 (n * n - r * r) (by omega) (by omega)]
theorem rcur_eq (n : Int) : chargeparkref06_Current.f n = some (fOk n) := by
  unfold chargeparkref06_Current.f fOk okRange
  by_cases e : n ≥ 0
  · rw [if_pos e, decide_eq_true (show 0 ≤ n from e), Bool.true_and]
  · rw [if_neg e, decide_eq_false (show ¬ 0 ≤ n from e), Bool.false_and]
theorem rnext_eq (r h heat a : Int) : chargeparkref06_Next.f r h heat a = if okAll r h heat a = true then some (fNext r heat a, 0) else some (0, 1) := by
  unfold chargeparkref06_Next.f
  rw [valid_eq, rcur_eq]
  simp only [Option.bind_some]
  by_cases c : okAll r h heat a = true
  · obtain ⟨c1, c2, c3⟩ := (okAll_iff _ _ _ _).1 c
    have b := okFuse_bd c1
    have d := fExc_bd ⟨b.1, b.2.1⟩ c3
    rw [if_pos c, c1, (fOk_iff a).2 c3, if_pos rfl, if_pos rfl, if_neg (by omega), if_neg (by omega), more_eq ⟨b.1, b.2.1⟩ c3]
    simp only [Option.bind_some]
    rw [hb_wrap64 _ (by omega) (by omega)]; rfl
  · rw [if_neg c]
    by_cases c1 : okFuse r h = true
    · rw [if_pos c1]
      by_cases c3 : fOk a = true
      · rw [if_pos c3]
        by_cases c2 : 0 ≤ heat ∧ heat ≤ h
        · exact absurd ((okAll_iff _ _ _ _).2 ⟨c1, c2, (fOk_iff a).1 c3⟩) c
        · by_cases c4 : heat < 0
          · rw [if_pos c4]
          · rw [if_neg c4, if_pos (by omega)]
      · rw [if_neg c3]
    · rw [if_neg c1]
theorem mn_eq (a b : Int) : mn a b = min a b := by unfold mn; omega
theorem rmelts_l1 {r h : Int} (l : List Int) (hl : l.length ≤ 10000) (hf : okFuse r h = true) (hall : ∀ n ∈ l, 0 ≤ n ∧ n ≤ 1000) : ∀ (d t k : Nat) (s m : Int), t + d = l.length → d < k →
    s - m = fHeatAt r 0 l t → -(t * 1000000) ≤ m ∧ m ≤ s ∧ s ≤ t * 1000000 → (∀ j, j < t → ¬ h < fHeatAt r 0 l (j + 1)) → chargeparkref06_Melts.l1 k l s m t r h = some (meltsVal (fMelt r h l), 0) := by
  have b := okFuse_bd hf
  intro d
  induction d with
  | zero =>
    intro t k s m ht hk h1 h2 hno
    obtain ⟨k, rfl⟩ : ∃ m, k = m + 1 := ⟨k - 1, by omega⟩
    simp only [chargeparkref06_Melts.l1]
    rw [if_neg (by omega), fMelt_none (fun j hj => hno j (by omega))]; rfl
  | succ d ih =>
    intro t k s m ht hk h1 h2 hno
    obtain ⟨k, rfl⟩ : ∃ m, k = m + 1 := ⟨k - 1, by omega⟩
    have hlt : t < l.length := by omega
    have hm := hall _ (List.getElem_mem hlt)
    have hs := fHeat_step r l 0 t hlt
    have hx := fExc_bd ⟨b.1, b.2.1⟩ hm
    rw [getD_mem hlt] at hs
    simp only [chargeparkref06_Melts.l1]
    have R : rd l (t : Int) = l[t] := by rw [rd_getD]; exact getD_mem hlt
    rw [if_pos (by omega), if_pos (by omega), R, more_eq ⟨b.1, b.2.1⟩ hm]
    simp only [Option.bind_some]
    unfold fNext at hs
    rw [mx_eq] at hs
    rw [hb_wrap64 (s + fExc r l[t]) (by omega) (by omega), hb_wrap64 (s + fExc r l[t] - m) (by omega) (by omega), mn_eq]
    by_cases c : s + fExc r l[t] - m > h
    · rw [if_pos c, fMelt_some hlt hno (by omega)]; rfl
    · rw [if_neg c, hb_wrap64 _ (by omega) (by omega), show (t : Int) + 1 = ((t + 1 : Nat) : Int) by omega]
      refine ih (t + 1) k _ _ (by omega) (by omega) (by omega) (by omega) (fun j hj => ?_)
      rcases Nat.lt_or_ge j t with q | q
      · exact hno j q
      · obtain rfl : j = t := by omega
        omega
theorem rmelts_l0 {r h : Int} (l : List Int) (hl : l.length ≤ 10000) : ∀ (d t k : Nat) (x : Bool), t + d = l.length → d + l.length + 1 < k →
    (x = true → okFuse r h = true ∧ ∀ n ∈ l.take t, 0 ≤ n ∧ n ≤ 1000) → chargeparkref06_Melts.l0 k l x t r h = if (x && (l.drop t).all fOk) = true then some (meltsVal (fMelt r h l), 0) else some (0, 1) := by
  intro d
  induction d with
  | zero =>
    intro t k x ht hk hx
    obtain ⟨k, rfl⟩ : ∃ m, k = m + 1 := ⟨k - 1, by omega⟩
    simp only [chargeparkref06_Melts.l0]
    rw [if_neg (by omega), List.drop_of_length_le (by omega)]
    cases x
    · rfl
    · have hx := hx rfl
      rw [List.take_of_length_le (by omega)] at hx
      simp only [if_true, List.all_nil, Bool.and_self]
      exact rmelts_l1 l hl hx.1 hx.2 l.length 0 k 0 0 (by omega) (by omega) rfl (by omega) (fun j hj => by omega)
  | succ d ih =>
    intro t k x ht hk hx
    obtain ⟨k, rfl⟩ : ∃ m, k = m + 1 := ⟨k - 1, by omega⟩
    have hlt : t < l.length := by omega
    simp only [chargeparkref06_Melts.l0]
    have R : rd l (t : Int) = l[t] := by rw [rd_getD]; exact getD_mem hlt
    rw [if_pos (by omega), if_pos (by omega), R, rcur_eq, hb_wrap64 _ (by omega) (by omega), show (t : Int) + 1 = ((t + 1 : Nat) : Int) by omega]
    simp only [Option.bind_some]
    rw [List.drop_eq_getElem_cons hlt, List.all_cons]
    cases x
    · rw [if_neg (by decide), ih (t + 1) k false (by omega) (by omega) (fun q => by cases q)]; rfl
    · rw [if_pos rfl, ih (t + 1) k (fOk l[t]) (by omega) (by omega) (fun q => ⟨(hx rfl).1, fun n hn => by
        rw [List.take_succ_eq_append_getElem hlt, List.mem_append] at hn
        rcases hn with hn | hn
        · exact (hx rfl).2 n hn
        · rw [List.mem_singleton] at hn
          rw [hn]; exact (fOk_iff _).1 q⟩)]
      rw [Bool.true_and]
theorem rmelts_eq (r h : Int) (l : List Int) (k : Nat) (hk : 2 * l.length + 1 < k) : chargeparkref06_Melts.f k r h l = fuse_Melts.f r h l := by
  rw [melts_eq]
  unfold chargeparkref06_Melts.f
  by_cases c : 10000 < l.length
  · rw [if_pos c, if_pos (by omega)]
  · rw [if_neg c, if_neg (by omega), valid_eq]
    simp only [Option.bind_some]
    exact rmelts_l0 l (by omega) l.length 0 k (okFuse r h) (by omega) (by omega) (fun q => ⟨q, by simp⟩)
theorem rholds_l0 {r h heat a : Int} (hf : okFuse r h = true) (ha : 0 ≤ a ∧ a ≤ 1000) (h0 : 0 ≤ heat ∧ heat ≤ h) (he : 0 < fExc r a) : ∀ (d k : Nat) (lo hi : Int), 0 ≤ lo → lo ≤ hi → hi ≤ h → hi - lo ≤ d → d < k →
    heat + lo * fExc r a ≤ h → h < heat + (hi + 1) * fExc r a → chargeparkref06_Holds.l0 k heat a lo hi r h = some ((h - heat) / fExc r a, 0) := by
  have b := okFuse_bd hf
  have hx := fExc_bd ⟨b.1, b.2.1⟩ ha
  have hend : ∀ lo hi : Int, lo = hi → heat + lo * fExc r a ≤ h → h < heat + (hi + 1) * fExc r a → lo = (h - heat) / fExc r a := by
    intro lo hi e q1 q2
    subst e
    apply Int.le_antisymm
    · exact Int.le_ediv_of_mul_le he (by omega)
    · have : (h - heat) / fExc r a < lo + 1 := Int.ediv_lt_of_lt_mul he (by omega)
      omega
  intro d
  induction d with
  | zero =>
    intro k lo hi g0 g1 g2 g3 hk q1 q2
    obtain ⟨k, rfl⟩ : ∃ m, k = m + 1 := ⟨k - 1, by omega⟩
    simp only [chargeparkref06_Holds.l0]
    rw [if_neg (by omega), hend lo hi (by omega) q1 q2]
  | succ d ih =>
    intro k lo hi g0 g1 g2 g3 hk q1 q2
    obtain ⟨k, rfl⟩ : ∃ m, k = m + 1 := ⟨k - 1, by omega⟩
    simp only [chargeparkref06_Holds.l0]
    by_cases c : lo < hi
    · rw [if_pos c, more_eq ⟨b.1, b.2.1⟩ ha]
      simp only [Option.bind_some]
      rw [hb_wrap64 (lo + hi) (by omega) (by omega), hb_wrap64 (lo + hi + 1) (by omega) (by omega), Int.tdiv_eq_ediv_of_nonneg (by omega), hb_wrap64 ((lo + hi + 1) / 2) (by omega) (by omega)]
      obtain ⟨mid, hmid⟩ : ∃ mid, (lo + hi + 1) / 2 = mid := ⟨_, rfl⟩
      rw [hmid]
      have p1 : 0 ≤ mid * fExc r a := Int.mul_nonneg (by omega) (by omega)
      have p2 : mid * fExc r a ≤ 1000000000 * 1000000 := Int.mul_le_mul (by omega) hx.2 (by omega) (by omega)
      rw [hb_wrap64 (mid * fExc r a) (by omega) (by omega), hb_wrap64 (heat + mid * fExc r a) (by omega) (by omega), hb_wrap64 (mid - 1) (by omega) (by omega)]
      by_cases c2 : heat + mid * fExc r a ≤ h
      · rw [if_pos c2]
        exact ih k mid hi (by omega) (by omega) (by omega) (by omega) (by omega) c2 q2
      · rw [if_neg c2]
        exact ih k lo (mid - 1) (by omega) (by omega) (by omega) (by omega) (by omega) q1 (by rw [show mid - 1 + 1 = mid by omega]; omega)
    · rw [if_neg c, hend lo hi (by omega) q1 q2]
theorem exc_iff {r a : Int} (hr : 0 ≤ r) (ha : 0 ≤ a) : fExc r a ≤ 0 ↔ a ≤ r ∨ r = 0 := by
  unfold fExc
  by_cases e : r = 0
  · rw [if_pos e]; omega
  · rw [if_neg e]
    constructor
    · intro q
      left
      rcases (show r < a ∨ a ≤ r by omega) with z | z
      · have : r * r < a * a := Int.lt_of_lt_of_le (Int.mul_lt_mul_of_pos_left z (by omega)) (Int.mul_le_mul_of_nonneg_right (by omega) ha)
        omega
      · exact z
    · intro q
      have : a * a ≤ r * r := Int.mul_le_mul (by omega) (by omega) ha hr
      omega
theorem rholds_eq (r h heat a : Int) (k : Nat) (hk : h.toNat + 2 < k) : chargeparkref06_Holds.f k r h heat a = fuse_Holds.f r h heat a := by
  rw [holds_eq]
  unfold chargeparkref06_Holds.f
  rw [rnext_eq]
  cases c : okAll r h heat a
  · rfl
  · obtain ⟨c1, c2, c3⟩ := (okAll_iff _ _ _ _).1 c
    have b := okFuse_bd c1
    simp only [if_true, Option.bind_some]
    have E := exc_iff (r := r) (a := a) b.1 c3.1
    obtain ⟨k, rfl⟩ : ∃ m, k = m + 1 := ⟨k - 1, by omega⟩
    by_cases e : fExc r a ≤ 0
    · rw [if_pos e]
      rcases (show r < a ∨ a ≤ r by omega) with z | z
      · have : r = 0 := by have := E.1 e; omega
        rw [if_neg (by omega), this]; simp [chargeparkref06_Holds.j0]
      · rw [if_pos z]; simp [chargeparkref06_Holds.j0]
    · have n : ¬ (a ≤ r ∨ r = 0) := fun q => e (E.2 q)
      rw [if_neg e, if_neg (by omega), show (r == 0) = false from by simp; omega]
      simp only [chargeparkref06_Holds.j0, Bool.false_eq_true, if_false]
      have p : (h + 1) * 1 ≤ (h + 1) * fExc r a := Int.mul_le_mul_of_nonneg_left (by omega) (by omega)
      exact rholds_l0 c1 c3 c2 (by omega) h.toNat k 0 h (by omega) (by omega) (by omega) (by omega) (by omega) (by omega) (by omega)
theorem FuseMatchesReference : chargeparklaw06_FuseMatchesReference.Pure := by
  intro s heat l a _ _ _ _
  obtain ⟨r, h⟩ := s
  refine ⟨h.toNat + 2 * l.length + 10, ?_⟩
  unfold chargeparklaw06_FuseMatchesReference.f
  rw [head_ok]
  simp only [Option.bind_some]
  by_cases c : (l.length : Int) > 12000
  · rw [if_pos c]
  · rw [if_neg c, next_eq, rnext_eq, rmelts_eq _ _ _ _ (by omega), rholds_eq _ _ _ _ _ (by omega)]
    obtain ⟨x, hx⟩ : ∃ x, (if okAll r h heat a = true then some (fNext r heat a, (0 : Int)) else some (0, 1)) = some x := by split <;> exact ⟨_, rfl⟩
    obtain ⟨y, hy⟩ : ∃ y, fuse_Melts.f r h l = some y := by rw [melts_eq]; split; exact ⟨_, rfl⟩; split <;> exact ⟨_, rfl⟩
    obtain ⟨z, hz⟩ : ∃ z, fuse_Holds.f r h heat a = some z := by rw [holds_eq]; split; (split <;> exact ⟨_, rfl⟩); exact ⟨_, rfl⟩
    rw [hx, hy, hz]
    simp

end Go.Proofs.Ytnfkddanbhibbaa.Pure
