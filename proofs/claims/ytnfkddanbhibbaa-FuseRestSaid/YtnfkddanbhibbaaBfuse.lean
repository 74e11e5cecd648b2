import Derived.Test.YtnfkddanbhibbaaQx10
import Derived.Test.YtnfkddanbhibbaaQx11
import Derived.Test.YtnfkddanbhibbaaQx12
import Derived.Test.YtnfkddanbhibbaaQx16
import Derived.Test.YtnfkddanbhibbaaQx7
import Derived.Test.YtnfkddanbhibbaaQx8
import Derived.Test.YtnfkddanbhibbaaQx9
namespace Go.Proofs.Ytnfkddanbhibbaa.Basefuse
open Go.RowKit Go.Proofs.Ytnfkddanbhibbaa.Q Go.Proofs.YtnfkddanbhibbaaW.PrintWords Go.Proofs.YtnfkddanbhibbaaW.PrintLast Go.Proofs.YtnfkddanbhibbaaW.PrintMore

theorem mx_eq (a b : Int) : mx a b = max a b := by unfold mx; omega
theorem head_ok : chargeparklaw06_head.f = some true := by decide +kernel
theorem okFuse_iff (r h : Int) : okFuse r h = true ↔ (r = 0 ∧ h = 0) ∨ (1 ≤ r ∧ r ≤ 1000 ∧ 0 ≤ h ∧ h ≤ 1000000000) := by
  unfold okFuse
  simp only [Bool.or_eq_true, Bool.and_eq_true, beq_iff_eq, decide_eq_true_eq]
  omega
theorem okRange_iff (x lo hi : Int) : okRange x lo hi = true ↔ lo ≤ x ∧ x ≤ hi := by simp [okRange]
theorem okFuse_bd {r h : Int} (c : okFuse r h = true) : 0 ≤ r ∧ r ≤ 1000 ∧ 0 ≤ h ∧ h ≤ 1000000000 := by
  have := (okFuse_iff r h).1 c; omega
theorem valid_eq (r h : Int) : chargeparkref06_Valid.f r h = some (okFuse r h) := by
  have e := okFuse_iff r h
  unfold chargeparkref06_Valid.f
  cases c : okFuse r h
  · rw [c] at e
    have e' : ¬ ((r = 0 ∧ h = 0) ∨ (1 ≤ r ∧ r ≤ 1000 ∧ 0 ≤ h ∧ h ≤ 1000000000)) := fun z => by have := e.2 z; cases this
    clear e
    repeat' split
    all_goals first | rfl | (exfalso; omega) | (congr 1; rw [decide_eq_false_iff_not]; omega)
  · have e' := e.1 c
    clear e
    repeat' split
    all_goals first | rfl | (exfalso; omega) | (congr 1; rw [decide_eq_true_eq]; omega)
/-- fuse, heat and current are valid -/
def okAll (r h heat a : Int) : Bool := okFuse r h && okRange heat 0 h && okRange a 0 1000
theorem okAll_iff (r h heat a : Int) : okAll r h heat a = true ↔ okFuse r h = true ∧ (0 ≤ heat ∧ heat ≤ h) ∧ (0 ≤ a ∧ a ≤ 1000) := by
  unfold okAll; rw [Bool.and_eq_true, Bool.and_eq_true, okRange_iff, okRange_iff]; exact ⟨fun h => ⟨h.1.1, h.1.2, h.2⟩, fun h => ⟨⟨h.1, h.2.1⟩, h.2.2⟩⟩
theorem start_eq (r h heat a : Int) : fuse_start.f r h heat a = if okAll r h heat a = true then some (r, h, heat, 0) else some (0, 0, 0, 1) := rfl
theorem next_eq (r h heat a : Int) : fuse_Next.f r h heat a = if okAll r h heat a = true then some (fNext r heat a, 0) else some (0, 1) := by
  unfold fuse_Next.f
  rw [start_eq]
  cases c : okAll r h heat a
  · rfl
  · obtain ⟨c1, c2, c3⟩ := (okAll_iff _ _ _ _).1 c
    have b := okFuse_bd c1
    simp only [if_true, Option.bind_some]
    rw [after_eq ⟨b.1, b.2.1⟩ c3 c2.1 (by omega)]
    rfl
theorem excess_eq {r h now n : Int} (hr : 0 ≤ r ∧ r ≤ 1000) (hn : 0 ≤ n ∧ n ≤ 1000) : fuse_warm_excess.f r h now n = some (fExc r n) := by
  have a := hb_sq (d := r) 1000 (by omega) (by omega)
  have b := hb_sq (d := n) 1000 (by omega) (by omega)
  unfold fuse_warm_excess.f fExc
  by_cases e : r = 0
  · rw [if_pos e, if_pos e]
  · rw [if_neg e, if_neg e, hb_wrap64 (n * n) (by omega) (by omega), hb_wrap64 (r * r) (by omega) (by omega), hb_wrap64 (n * n - r * r) (by omega) (by omega)]
theorem holds_eq (r h heat a : Int) : fuse_Holds.f r h heat a = if okAll r h heat a = true then (if fExc r a ≤ 0 then some (-1, 0) else some ((h - heat) / fExc r a, 0)) else some (0, 1) := by
  unfold fuse_Holds.f
  rw [start_eq]
  cases c : okAll r h heat a
  · rfl
  · obtain ⟨c1, c2, c3⟩ := (okAll_iff _ _ _ _).1 c
    have b := okFuse_bd c1
    simp only [if_true, Option.bind_some]
    rw [excess_eq ⟨b.1, b.2.1⟩ c3]
    simp only [Option.bind_some]
    by_cases e : fExc r a ≤ 0
    · rw [if_pos e, if_pos e]
    · rw [if_neg e, if_neg e, if_neg (by omega), hb_wrap64 (h - heat) (by omega) (by omega), Int.tdiv_eq_ediv_of_nonneg (by omega)]
      have h1 : 0 ≤ (h - heat) / fExc r a := Int.ediv_nonneg (by omega) (by omega)
      have h2 : (h - heat) / fExc r a ≤ h - heat := Int.ediv_le_self _ (by omega)
      rw [hb_wrap64 _ (by omega) (by omega)]
theorem melts_eq (r h : Int) (l : List Int) : fuse_Melts.f r h l = if 10000 < l.length then some (0, 2) else if (okFuse r h && l.all fOk) = true then some (meltsVal (fMelt r h l), 0) else some (0, 1) := rfl
theorem rd_getD (l : List Int) (i : Int) : rd l i = l.getD i.toNat 0 := rfl
theorem currents_loop (l : List Int) (m : Int) (hl : l.length ≤ maxLen) : ∀ (d k : Nat) (i : Int), 0 ≤ i → i + d = l.length → d < k →
    chargeparklaw06_currents.l0 k l m i = some ((l.drop i.toNat).all (fun n => okRange n 0 m) && decide (l.length ≤ 10000)) := by
  have hmax : maxLen = 9223372036854775807 := rfl
  intro d
  induction d with
  | zero =>
    intro k i h0 h1 hk
    obtain ⟨k, rfl⟩ : ∃ m, k = m + 1 := ⟨k - 1, by omega⟩
    simp only [chargeparklaw06_currents.l0]
    rw [if_neg (by omega), List.drop_of_length_le (by omega)]
    simp
    omega
  | succ d ih =>
    intro k i h0 h1 hk
    obtain ⟨k, rfl⟩ : ∃ m, k = m + 1 := ⟨k - 1, by omega⟩
    simp only [chargeparklaw06_currents.l0]
    have hlt : i.toNat < l.length := by omega
    rw [if_pos (by omega), if_pos h0, rd_getD, getD_mem hlt, List.drop_eq_getElem_cons hlt, List.all_cons]
    by_cases c1 : l[i.toNat] < 0
    · rw [if_pos c1]
      have : okRange l[i.toNat] 0 m = false := by simp [okRange]; omega
      rw [this]; rfl
    · rw [if_neg c1]
      by_cases c2 : l[i.toNat] > m
      · rw [if_pos c2]
        have : okRange l[i.toNat] 0 m = false := by simp [okRange]; omega
        rw [this]; rfl
      · rw [if_neg c2, hb_wrap64 _ (by omega) (by omega), ih k (i + 1) (by omega) (by omega) (by omega)]
        have : okRange l[i.toNat] 0 m = true := by simp [okRange]; omega
        rw [this, show (i + 1).toNat = i.toNat + 1 by omega]; rfl
theorem currents_eq (l : List Int) (m : Int) (hl : l.length ≤ maxLen) (k : Nat) (hk : l.length < k) : chargeparklaw06_currents.f k l m = some (l.all (fun n => okRange n 0 m) && decide (l.length ≤ 10000)) := by
  unfold chargeparklaw06_currents.f
  rw [currents_loop l m hl l.length k 0 (by omega) (by omega) hk]
  rfl
theorem wf_head {a : Int} (h : (Lit.int .i64 a).wf = true) : -9223372036854775808 ≤ a ∧ a ≤ 9223372036854775807 := wf_i64 h

end Go.Proofs.Ytnfkddanbhibbaa.Basefuse
