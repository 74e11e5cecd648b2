/-
For every site, list of bytes, pick and surplus: if one charger draws some amperes more, the loads grow by as much on its path, on the phases that it uses, and nowhere else; without any current all loads are 0.
-/
import Derived.Test.YtpdmnineampimaaYQx57
import Derived.Test.YtpdmnineampimaaYQx26
import Derived.Test.YtpdmnineampimaaYQx51
import Derived.Test.YtpdmnineampimaaYBvalid
import Derived.Test.YtpdmnineampimaaYBtree
import Derived.Test.YtpdmnineampimaaYBloads
set_option linter.unusedVariables false
set_option linter.unusedSimpArgs false
namespace Go.Proofs.Ytpdmnineampimaa.Pure
open Go.RowKit Go.Proofs.Ytpdmnineampimaa.Q Go.Proofs.YtpdmnineampimaaW.PrintWords Go.Proofs.YtpdmnineampimaaW.PrintLast Go.Proofs.YtpdmnineampimaaW.PrintMore Go.Proofs.Ytpdmnineampimaa.Basevalid Go.Proofs.Ytpdmnineampimaa.Basetree Go.Proofs.Ytpdmnineampimaa.Baseloads

section
variable {l0 : List S48} {l1 : List S62} {l2 : List S84} {l3 : List S42} {l4 : List S87}
theorem in_l0 (l : List Int) (a : Int) (hl : l.length < 1000000) : ∀ (d k i : Nat), i + d = l.length → d < k →
    w08_in.l0 k a l l.length i = some (decide (a ∈ l.drop i)) := by
  intro d
  induction d with
  | zero =>
    intro k i hi hk
    obtain ⟨k, rfl⟩ : ∃ k', k = k' + 1 := ⟨k - 1, by omega⟩
    simp only [w08_in.l0]; rw [if_neg (by omega), List.drop_of_length_le (by omega)]; rfl
  | succ d ih =>
    intro k i hi hk
    obtain ⟨k, rfl⟩ : ∃ k', k = k' + 1 := ⟨k - 1, by omega⟩
    have hlt : i < l.length := by omega
    have e : rd l (i : Int) = l[i] := by simp [rd, List.getD_eq_getElem?_getD, hlt]
    simp only [w08_in.l0]
    rw [if_pos (by omega), if_pos (by omega), if_pos (by omega), e, List.drop_eq_getElem_cons hlt]
    by_cases c : l[i] = a
    · rw [if_pos c, decide_eq_true (by rw [c]; exact List.mem_cons_self ..)]
    · rw [if_neg c, hb_wrap64 _ (by omega) (by omega)]
      have h := ih k (i + 1) (by omega) (by omega)
      rw [show ((i : Int) + 1) = ((i + 1 : Nat) : Int) from rfl, h, decide_eq_decide.2]
      rw [List.mem_cons]
      exact ⟨Or.inr, fun h => h.resolve_left (fun h => c h.symm)⟩
theorem in_ok (l : List Int) (a : Int) (k : Nat) (hl : l.length < 1000000) (hk : l.length < k) : w08_in.f k l a = some (decide (a ∈ l)) := by
  have h := in_l0 l a hl l.length k 0 (by omega) hk
  rw [List.drop_zero] at h
  exact h
theorem shr_bit (n : Int) (h1 : 1 ≤ n) (h2 : n ≤ 7) : (Go.bits .and .i64 (shr .i64 n 0) 1 == 1) = bitOf n 0 ∧ (Go.bits .and .i64 (shr .i64 n 1) 1 == 1) = bitOf n 1 ∧ (Go.bits .and .i64 (shr .i64 n 2) 1 == 1) = bitOf n 2 := by
  have : n = 1 ∨ n = 2 ∨ n = 3 ∨ n = 4 ∨ n = 5 ∨ n = 6 ∨ n = 7 := by omega
  rcases this with rfl | rfl | rfl | rfl | rfl | rfl | rfl <;> decide +kernel
theorem sum_zero {z : List Int} {n : Nat} (hz : ∀ j : Nat, j < n → rd z j = 0) (c : Int) (p : Nat) : ∀ i, i ≤ n → sumL l0 l3 z c p i = 0
  | 0, _ => rfl
  | i + 1, h => by simp [sumL, sum_zero hz c p i (by omega), hz i (by omega)]
theorem sum_more {a b : List Int} {n : Nat} (kk : Nat) (d : Int) (hk : rd b kk = rd a kk + d) (hne : ∀ j : Nat, j ≠ kk → rd b j = rd a j) (c : Int) (p : Nat) : ∀ i, i ≤ n →
    sumL l0 l3 b c p i = sumL l0 l3 a c p i + (if kk < i ∧ c ∈ wayL l0 l3 kk ∧ bitOf (rd_T42 l3 (kk : Int)).f2 p = true then d else 0)
  | 0, _ => by simp [sumL]
  | i + 1, h => by
    simp only [sumL, sum_more (n := n) kk d hk hne c p i (by omega)]
    by_cases e : i = kk
    · subst e
      rw [hk, if_neg (show ¬ (i < i ∧ _) from fun h => absurd h.1 (Nat.lt_irrefl _))]
      by_cases q : c ∈ wayL l0 l3 i ∧ bitOf (rd_T42 l3 (i : Int)).f2 p = true
      · rw [if_pos q, if_pos q, if_pos ⟨by omega, q⟩]; omega
      · rw [if_neg q, if_neg q, if_neg (fun h => q h.2)]
    · rw [hne i e]
      have : (kk < i ∧ c ∈ wayL l0 l3 kk ∧ bitOf (rd_T42 l3 (kk : Int)).f2 p = true) ↔ (kk < i + 1 ∧ c ∈ wayL l0 l3 kk ∧ bitOf (rd_T42 l3 (kk : Int)).f2 p = true) := ⟨fun h => ⟨by omega, h.2⟩, fun h => ⟨by omega, h.2⟩⟩
      simp only [this]; omega
theorem to_l0 (F : FineS l0 l1 l2 l3 l4) {a b z : List Int} (ha : AmpsF l3.length a) (hb : AmpsF l3.length b) (hz : AmpsF l3.length z) (h0 : ∀ j : Nat, j < l3.length → rd z j = 0) (kk : Nat) (hkk : kk < l3.length) (d : Int) (hd : 0 ≤ d ∧ d ≤ 80)
    (hk : rd b kk = rd a kk + d) (hne : ∀ j : Nat, j ≠ kk → rd b j = rd a j) : ∀ (e c : Nat), c + e = l0.length →
    Evt (fun k => w08_TreeOne.l0 k true kk d (loadsV l0 l3 a) (loadsV l0 l3 b) (loadsV l0 l3 z) (wayL l0 l3 kk) l0.length c l0 l1 l2 l3 l4) true := by
  have hn0 := F.n0
  have hn3 := F.n3
  have la := loadsV_len (l0 := l0) (l3 := l3) a
  have lb := loadsV_len (l0 := l0) (l3 := l3) b
  have lz := loadsV_len (l0 := l0) (l3 := l3) z
  have ph := F.ph (a := (kk : Int)) (by omega) (by omega)
  have bt := shr_bit _ ph.1 ph.2
  have hw := (fs_way F hkk).le
  intro e
  induction e with
  | zero => exact fun c hc => Evt.const fun k _ => by simp only [w08_TreeOne.l0]; rw [if_neg (by omega)]
  | succ e ih =>
    intro c hc
    have ga := loads_at F ha.get c (by omega)
    have gb := loads_at F hb.get c (by omega)
    have gz := loads_at F hz.get c (by omega)
    have a0 := sum_bd (l0 := l0) (l3 := l3) ha.get c 0 l3.length (Nat.le_refl _)
    have z0 := sum_zero (l0 := l0) (l3 := l3) h0 c 0 l3.length (Nat.le_refl _)
    have m0 := sum_more (l0 := l0) (l3 := l3) (n := l3.length) kk d hk hne c 0 l3.length (Nat.le_refl _)
    have a1 := sum_bd (l0 := l0) (l3 := l3) ha.get c 1 l3.length (Nat.le_refl _)
    have z1 := sum_zero (l0 := l0) (l3 := l3) h0 c 1 l3.length (Nat.le_refl _)
    have m1 := sum_more (l0 := l0) (l3 := l3) (n := l3.length) kk d hk hne c 1 l3.length (Nat.le_refl _)
    have a2 := sum_bd (l0 := l0) (l3 := l3) ha.get c 2 l3.length (Nat.le_refl _)
    have z2 := sum_zero (l0 := l0) (l3 := l3) h0 c 2 l3.length (Nat.le_refl _)
    have m2 := sum_more (l0 := l0) (l3 := l3) (n := l3.length) kk d hk hne c 2 l3.length (Nat.le_refl _)
    have s3 : Evt (fun k => w08_TreeOne.l1 k true kk d (loadsV l0 l3 a) (loadsV l0 l3 b) (loadsV l0 l3 z) (wayL l0 l3 kk) c l0.length c 3 l0 l1 l2 l3 l4) true := by
      refine (ih (c + 1) (by omega)).step fun k _ => ?_
      simp only [w08_TreeOne.l1]
      rw [if_neg (by omega), hb_wrap64 _ (by omega) (by omega)]; rfl
    have s2 : Evt (fun k => w08_TreeOne.l1 k true kk d (loadsV l0 l3 a) (loadsV l0 l3 b) (loadsV l0 l3 z) (wayL l0 l3 kk) c l0.length c 2 l0 l1 l2 l3 l4) true := by
      have t13 : Evt (fun k => w08_TreeOne.j13 k true kk d (loadsV l0 l3 a) (loadsV l0 l3 b) (loadsV l0 l3 z) (wayL l0 l3 kk) c l0.length c 2 l0 l1 l2 l3 l4) true := by
        refine s3.step fun k _ => ?_
        simp only [w08_TreeOne.j13]
        rw [hb_wrap64 _ (by omega) (by omega)]; rfl
      have tC : Evt (fun k => w08_TreeOne.j12 k true kk d (loadsV l0 l3 a) (loadsV l0 l3 b) (loadsV l0 l3 z) (wayL l0 l3 kk) c l0.length c 2 false l0 l1 l2 l3 l4) true := by
        refine t13.step fun k _ => ?_
        simp only [w08_TreeOne.j12]
        rw [if_neg (by decide)]
      have tB : Evt (fun k => w08_TreeOne.j11 k true kk d (loadsV l0 l3 a) (loadsV l0 l3 b) (loadsV l0 l3 z) (wayL l0 l3 kk) c 2 (sumL l0 l3 b c 2 l3.length) l0.length c 2 l0 l1 l2 l3 l4) true := by
        refine tC.step fun k _ => ?_
        simp only [w08_TreeOne.j11, lb, lz, gb, gz]
        rw [if_pos (by omega), if_pos (by omega), if_neg (by omega), if_neg (by omega), if_pos trivial, if_pos trivial, if_pos (by omega), z2]; rfl
      by_cases w : (c : Int) ∈ wayL l0 l3 kk ∧ bitOf (rd_T42 l3 (kk : Int)).f2 2 = true
      · rw [if_pos ⟨hkk, w⟩] at m2
        have tA : Evt (fun k => w08_TreeOne.j10 k true kk d (loadsV l0 l3 a) (loadsV l0 l3 b) (loadsV l0 l3 z) (wayL l0 l3 kk) c 2 (sumL l0 l3 a c 2 l3.length) l0.length c 2 true l0 l1 l2 l3 l4) true := by
          refine tB.step fun k _ => ?_
          simp only [w08_TreeOne.j10]
          rw [if_pos trivial, hb_wrap64 _ (by omega) (by omega), ← m2]
        refine tA.step fun k hk => ?_
        simp only [w08_TreeOne.l1, la, ga]
        rw [if_pos (by omega), if_pos (by omega), if_pos (by omega), if_neg (by omega), if_neg (by omega), if_pos trivial, in_ok _ _ k (by omega) (by omega), Option.bind_some, if_pos (decide_eq_true w.1), if_pos (by omega), if_pos (by omega), if_pos (by omega), bt.2.2, w.2]
      · rw [if_neg (fun h => w h.2), Int.add_zero] at m2
        have tA : Evt (fun k => w08_TreeOne.j10 k true kk d (loadsV l0 l3 a) (loadsV l0 l3 b) (loadsV l0 l3 z) (wayL l0 l3 kk) c 2 (sumL l0 l3 a c 2 l3.length) l0.length c 2 false l0 l1 l2 l3 l4) true := by
          refine tB.step fun k _ => ?_
          simp only [w08_TreeOne.j10]
          rw [if_neg (by decide), ← m2]
        refine tA.step fun k hk => ?_
        simp only [w08_TreeOne.l1, la, ga]
        rw [if_pos (by omega), if_pos (by omega), if_pos (by omega), if_neg (by omega), if_neg (by omega), if_pos trivial, in_ok _ _ k (by omega) (by omega), Option.bind_some]
        by_cases u : (c : Int) ∈ wayL l0 l3 kk
        · rw [if_pos (decide_eq_true u), if_pos (by omega), if_pos (by omega), if_pos (by omega), bt.2.2, Bool.eq_false_iff.2 (fun h => w ⟨u, h⟩)]
        · rw [if_neg (by rw [decide_eq_false u]; decide)]
    have s1 : Evt (fun k => w08_TreeOne.l1 k true kk d (loadsV l0 l3 a) (loadsV l0 l3 b) (loadsV l0 l3 z) (wayL l0 l3 kk) c l0.length c 1 l0 l1 l2 l3 l4) true := by
      have t13 : Evt (fun k => w08_TreeOne.j13 k true kk d (loadsV l0 l3 a) (loadsV l0 l3 b) (loadsV l0 l3 z) (wayL l0 l3 kk) c l0.length c 1 l0 l1 l2 l3 l4) true := by
        refine s2.step fun k _ => ?_
        simp only [w08_TreeOne.j13]
        rw [hb_wrap64 _ (by omega) (by omega)]; rfl
      have tC : Evt (fun k => w08_TreeOne.j9 k true kk d (loadsV l0 l3 a) (loadsV l0 l3 b) (loadsV l0 l3 z) (wayL l0 l3 kk) c l0.length c 1 false l0 l1 l2 l3 l4) true := by
        refine t13.step fun k _ => ?_
        simp only [w08_TreeOne.j9]
        rw [if_neg (by decide)]
      have tB : Evt (fun k => w08_TreeOne.j8 k true kk d (loadsV l0 l3 a) (loadsV l0 l3 b) (loadsV l0 l3 z) (wayL l0 l3 kk) c 1 (sumL l0 l3 b c 1 l3.length) l0.length c 1 l0 l1 l2 l3 l4) true := by
        refine tC.step fun k _ => ?_
        simp only [w08_TreeOne.j8, lb, lz, gb, gz]
        rw [if_pos (by omega), if_pos (by omega), if_neg (by omega), if_pos trivial, if_pos trivial, if_pos (by omega), z1]; rfl
      by_cases w : (c : Int) ∈ wayL l0 l3 kk ∧ bitOf (rd_T42 l3 (kk : Int)).f2 1 = true
      · rw [if_pos ⟨hkk, w⟩] at m1
        have tA : Evt (fun k => w08_TreeOne.j7 k true kk d (loadsV l0 l3 a) (loadsV l0 l3 b) (loadsV l0 l3 z) (wayL l0 l3 kk) c 1 (sumL l0 l3 a c 1 l3.length) l0.length c 1 true l0 l1 l2 l3 l4) true := by
          refine tB.step fun k _ => ?_
          simp only [w08_TreeOne.j7]
          rw [if_pos trivial, hb_wrap64 _ (by omega) (by omega), ← m1]
        refine tA.step fun k hk => ?_
        simp only [w08_TreeOne.l1, la, ga]
        rw [if_pos (by omega), if_pos (by omega), if_pos (by omega), if_neg (by omega), if_pos trivial, in_ok _ _ k (by omega) (by omega), Option.bind_some, if_pos (decide_eq_true w.1), if_pos (by omega), if_pos (by omega), if_pos (by omega), bt.2.1, w.2]
      · rw [if_neg (fun h => w h.2), Int.add_zero] at m1
        have tA : Evt (fun k => w08_TreeOne.j7 k true kk d (loadsV l0 l3 a) (loadsV l0 l3 b) (loadsV l0 l3 z) (wayL l0 l3 kk) c 1 (sumL l0 l3 a c 1 l3.length) l0.length c 1 false l0 l1 l2 l3 l4) true := by
          refine tB.step fun k _ => ?_
          simp only [w08_TreeOne.j7]
          rw [if_neg (by decide), ← m1]
        refine tA.step fun k hk => ?_
        simp only [w08_TreeOne.l1, la, ga]
        rw [if_pos (by omega), if_pos (by omega), if_pos (by omega), if_neg (by omega), if_pos trivial, in_ok _ _ k (by omega) (by omega), Option.bind_some]
        by_cases u : (c : Int) ∈ wayL l0 l3 kk
        · rw [if_pos (decide_eq_true u), if_pos (by omega), if_pos (by omega), if_pos (by omega), bt.2.1, Bool.eq_false_iff.2 (fun h => w ⟨u, h⟩)]
        · rw [if_neg (by rw [decide_eq_false u]; decide)]
    have s0 : Evt (fun k => w08_TreeOne.l1 k true kk d (loadsV l0 l3 a) (loadsV l0 l3 b) (loadsV l0 l3 z) (wayL l0 l3 kk) c l0.length c 0 l0 l1 l2 l3 l4) true := by
      have t13 : Evt (fun k => w08_TreeOne.j13 k true kk d (loadsV l0 l3 a) (loadsV l0 l3 b) (loadsV l0 l3 z) (wayL l0 l3 kk) c l0.length c 0 l0 l1 l2 l3 l4) true := by
        refine s1.step fun k _ => ?_
        simp only [w08_TreeOne.j13]
        rw [hb_wrap64 _ (by omega) (by omega)]; rfl
      have tC : Evt (fun k => w08_TreeOne.j6 k true kk d (loadsV l0 l3 a) (loadsV l0 l3 b) (loadsV l0 l3 z) (wayL l0 l3 kk) c l0.length c 0 false l0 l1 l2 l3 l4) true := by
        refine t13.step fun k _ => ?_
        simp only [w08_TreeOne.j6]
        rw [if_neg (by decide)]
      have tB : Evt (fun k => w08_TreeOne.j5 k true kk d (loadsV l0 l3 a) (loadsV l0 l3 b) (loadsV l0 l3 z) (wayL l0 l3 kk) c 0 (sumL l0 l3 b c 0 l3.length) l0.length c 0 l0 l1 l2 l3 l4) true := by
        refine tC.step fun k _ => ?_
        simp only [w08_TreeOne.j5, lb, lz, gb, gz]
        rw [if_pos (by omega), if_pos (by omega), if_pos trivial, if_pos trivial, if_pos (by omega), z0]; rfl
      by_cases w : (c : Int) ∈ wayL l0 l3 kk ∧ bitOf (rd_T42 l3 (kk : Int)).f2 0 = true
      · rw [if_pos ⟨hkk, w⟩] at m0
        have tA : Evt (fun k => w08_TreeOne.j4 k true kk d (loadsV l0 l3 a) (loadsV l0 l3 b) (loadsV l0 l3 z) (wayL l0 l3 kk) c 0 (sumL l0 l3 a c 0 l3.length) l0.length c 0 true l0 l1 l2 l3 l4) true := by
          refine tB.step fun k _ => ?_
          simp only [w08_TreeOne.j4]
          rw [if_pos trivial, hb_wrap64 _ (by omega) (by omega), ← m0]
        refine tA.step fun k hk => ?_
        simp only [w08_TreeOne.l1, la, ga]
        rw [if_pos (by omega), if_pos (by omega), if_pos (by omega), if_pos trivial, in_ok _ _ k (by omega) (by omega), Option.bind_some, if_pos (decide_eq_true w.1), if_pos (by omega), if_pos (by omega), if_pos (by omega), bt.1, w.2]
      · rw [if_neg (fun h => w h.2), Int.add_zero] at m0
        have tA : Evt (fun k => w08_TreeOne.j4 k true kk d (loadsV l0 l3 a) (loadsV l0 l3 b) (loadsV l0 l3 z) (wayL l0 l3 kk) c 0 (sumL l0 l3 a c 0 l3.length) l0.length c 0 false l0 l1 l2 l3 l4) true := by
          refine tB.step fun k _ => ?_
          simp only [w08_TreeOne.j4]
          rw [if_neg (by decide), ← m0]
        refine tA.step fun k hk => ?_
        simp only [w08_TreeOne.l1, la, ga]
        rw [if_pos (by omega), if_pos (by omega), if_pos (by omega), if_pos trivial, in_ok _ _ k (by omega) (by omega), Option.bind_some]
        by_cases u : (c : Int) ∈ wayL l0 l3 kk
        · rw [if_pos (decide_eq_true u), if_pos (by omega), if_pos (by omega), if_pos (by omega), bt.1, Bool.eq_false_iff.2 (fun h => w ⟨u, h⟩)]
        · rw [if_neg (by rw [decide_eq_false u]; decide)]
    refine s0.step fun k _ => ?_
    simp only [w08_TreeOne.l0]
    rw [if_pos (by omega)]
theorem rd_set_self {l : List Int} {i : Nat} {v : Int} (h : i < l.length) : rd (l.set i v) (i : Int) = v := by simp [rd, List.getD_eq_getElem?_getD, h]
theorem rd_set_ne {l : List Int} {i j : Nat} {v : Int} (h : i ≠ j) : rd (l.set i v) (j : Int) = rd l j := by simp [rd, List.getD_eq_getElem?_getD, List.getElem?_set_ne h]
end
theorem TreeOne : w08_TreeOne.Pure := by
  intro s l pk mo w wl wp wm
  obtain ⟨K1, hK1⟩ := head_ok
  obtain ⟨K2, hK2⟩ := usable_ok (hs_of w)
  have hp := wf_u8 wp
  have hm := wf_u8 wm
  cases hv : validB s.f0 s.f1 s.f2 s.f3 s.f4
  · refine ⟨K1 + K2 + 1, ?_⟩
    unfold w08_TreeOne.f
    rw [show w08_head.f (K1 + K2 + 1) = some true from hK1 _ (by omega), show w08_usable.f (K1 + K2 + 1) _ _ _ _ _ = _ from hK2 _ (by omega), hv]
    simp [w08_TreeOne.j0]
  · have sv := sv_ok w
    rw [hv] at sv
    have F := valid_fine hv
    have hn3 := F.n3
    have hn0 := F.n0
    by_cases hz : s.f3.length = 0
    · refine ⟨K1 + K2 + 1, ?_⟩
      unfold w08_TreeOne.f
      rw [show w08_head.f (K1 + K2 + 1) = some true from hK1 _ (by omega), show w08_usable.f (K1 + K2 + 1) _ _ _ _ _ = _ from hK2 _ (by omega), hv]
      simp only [Option.bind_some, if_true, hz]
      simp [w08_TreeOne.j0]
    · obtain ⟨a, ⟨K3, hK3⟩, hA⟩ := cur_ok (l0 := s.f0) (l1 := s.f1) (l2 := s.f2) (l3 := s.f3) (l4 := s.f4) l wl.2 (by omega)
      have hm0 : 0 ≤ Int.tmod pk (s.f3.length : Int) := by rw [Int.tmod_eq_emod_of_nonneg hp.1]; exact Int.emod_nonneg _ (by omega)
      have hm1 : Int.tmod pk (s.f3.length : Int) < (s.f3.length : Int) := by rw [Int.tmod_eq_emod_of_nonneg hp.1]; exact Int.emod_lt_of_pos _ (by omega)
      obtain ⟨kk, hkk⟩ : ∃ n : Nat, Int.tmod pk (s.f3.length : Int) = (n : Int) := Int.eq_ofNat_of_zero_le hm0
      rw [hkk] at hm1
      have hAk := hA.get kk (by omega)
      have hd0 : 0 ≤ Int.tmod mo (81 - rd a kk) := by rw [Int.tmod_eq_emod_of_nonneg hm.1]; exact Int.emod_nonneg _ (by omega)
      have hd1 : Int.tmod mo (81 - rd a kk) < 81 - rd a kk := by rw [Int.tmod_eq_emod_of_nonneg hm.1]; exact Int.emod_lt_of_pos _ (by omega)
      obtain ⟨d, hd⟩ : ∃ d, Int.tmod mo (81 - rd a kk) = d := ⟨_, rfl⟩
      rw [hd] at hd0 hd1
      have hal := hA.len
      have hB : AmpsF s.f3.length (a.set kk (rd a kk + d)) := ⟨by simp [hal], fun j hj => by
        by_cases e : kk = j
        · subst e; rw [rd_set_self (by omega)]; omega
        · rw [rd_set_ne e]; exact hA.get j hj⟩
      have hZ0 : ∀ j : Nat, j < s.f3.length → rd (List.replicate s.f3.length 0) (j : Int) = 0 := fun j hj => by simp [rd, List.getD_eq_getElem?_getD, hj]
      have hZ : AmpsF s.f3.length (List.replicate s.f3.length 0) := ⟨by simp, fun j hj => by rw [hZ0 j hj]; omega⟩
      obtain ⟨K4, hK4⟩ := to_l0 F hA hB hZ hZ0 kk (by omega) d ⟨hd0, by omega⟩ (rd_set_self (by omega)) (fun j hj => rd_set_ne (Ne.symm hj)) s.f0.length 0 (by omega)
      have hpath : tree_Path.f s.f0 s.f1 s.f2 s.f3 s.f4 kk = some (wayL s.f0 s.f3 kk, 0) := by
        unfold tree_Path.f
        rw [if_pos ⟨by omega, by omega⟩, sv]; rfl
      refine ⟨K1 + K2 + K3 + K4 + 1 + 1, ?_⟩
      unfold w08_TreeOne.f
      rw [show w08_head.f (K1 + K2 + K3 + K4 + 1 + 1) = some true from hK1 _ (by omega), show w08_usable.f (K1 + K2 + K3 + K4 + 1 + 1) _ _ _ _ _ = _ from hK2 _ (by omega), hv]
      simp only [Option.bind_some, if_true]
      have e0 : ((s.f3.length : Int) == 0) = false := by rw [beq_eq_false_iff_ne]; omega
      rw [e0]
      simp only [w08_TreeOne.j0]
      rw [if_neg (by decide), if_neg (by omega), show w08_currents.f (K1 + K2 + K3 + K4 + 1) _ _ _ _ _ _ = _ from hK3 _ (by omega)]
      simp only [Option.bind_some, List.nil_append, List.length_nil]
      rw [hb_wrap64 pk (by omega) (by omega), hkk, hb_wrap64 (81 - rd a kk) (by omega) (by omega), hb_wrap64 mo (by omega) (by omega), hd, hb_wrap64 (rd a kk + d) (by omega) (by omega), hal, Int.toNat_natCast, Int.toNat_natCast]
      rw [if_pos (by omega), if_pos (by omega), if_pos (by omega), if_neg (by omega), if_pos (by omega), lds_ok sv F hA, lds_ok sv F hB]
      simp only [Option.bind_some]
      rw [if_pos (by omega), if_pos (by omega), lds_ok sv F hZ, hpath]
      simp only [Option.bind_some, if_true]
      have e1 : ((0 : Int) != 0) = false := by decide
      rw [e1]
      simp only [w08_TreeOne.j1, loadsV_len]
      rw [if_neg (by decide)]
      exact hK4 _ (by omega)

end Go.Proofs.Ytpdmnineampimaa.Pure
