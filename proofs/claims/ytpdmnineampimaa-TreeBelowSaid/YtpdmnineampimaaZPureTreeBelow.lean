/-
For every site: a charger is below a conductor if and only if this is on its path; all chargers are below the feeder; those below one conductor increase.
-/
import Derived.Test.YtpdmnineampimaaZQx51
import Derived.Test.YtpdmnineampimaaZQx25
import Derived.Test.YtpdmnineampimaaZQx27
import Derived.Test.YtpdmnineampimaaZQx50
import Derived.Test.YtpdmnineampimaaZBvalid
import Derived.Test.YtpdmnineampimaaZBtree
namespace Go.Proofs.Ytpdmnineampimaa.Pure
open Go.RowKit Go.Proofs.Ytpdmnineampimaa.Q Go.Proofs.YtpdmnineampimaaW.PrintWords Go.Proofs.YtpdmnineampimaaW.PrintLast Go.Proofs.YtpdmnineampimaaW.PrintMore Go.Proofs.Ytpdmnineampimaa.Basevalid Go.Proofs.Ytpdmnineampimaa.Basetree

theorem in_l0 (l : List Int) (a : Int) (hl : l.length < 1000000) : ∀ (d k i : Nat), i + d = l.length → d < k →
    w08_in.l0 k a l l.length i = some (decide (a ∈ l.drop i)) := by
  intro d
  induction d with
  | zero =>
    intro k i hi hk
    obtain ⟨k, rfl⟩ : ∃ k', k = k' + 1 := ⟨k - 1, by omega⟩
    simp only [w08_in.l0]; rw [if_neg (by omega), List.drop_of_length_le (by omega)]; rfl
  | succ d ih =>
    intro k i hi hk
    obtain ⟨k, rfl⟩ : ∃ k', k = k' + 1 := ⟨k - 1, by omega⟩
    have hlt : i < l.length := by omega
    have e : rd l (i : Int) = l[i] := by simp [rd, List.getD_eq_getElem?_getD, hlt]
    simp only [w08_in.l0]
    rw [if_pos (by omega), if_pos (by omega), if_pos (by omega), e, List.drop_eq_getElem_cons hlt]
    by_cases c : l[i] = a
    · rw [if_pos c, decide_eq_true (by rw [c]; exact List.mem_cons_self ..)]
    · rw [if_neg c, hb_wrap64 _ (by omega) (by omega)]
      have h := ih k (i + 1) (by omega) (by omega)
      rw [show ((i : Int) + 1) = ((i + 1 : Nat) : Int) from rfl, h, decide_eq_decide.2]
      rw [List.mem_cons]
      exact ⟨Or.inr, fun h => h.resolve_left (fun h => c h.symm)⟩
theorem in_ok (l : List Int) (a : Int) (k : Nat) (hl : l.length < 1000000) (hk : l.length < k) : w08_in.f k l a = some (decide (a ∈ l)) := by
  have h := in_l0 l a hl l.length k 0 (by omega) hk
  rw [List.drop_zero] at h
  exact h
section
variable {l0 : List S48} {l1 : List S62} {l2 : List S84} {l3 : List S42} {l4 : List S87}
def cntB (l0 : List S48) (l3 : List S42) (c : Int) (i : Nat) : Nat := ((List.range i).filter fun (j : Nat) => decide (c ∈ upL l0 17 (rd_T42 l3 (j : Int)).f1)).length
theorem cnt_succ (c : Int) (i : Nat) : cntB l0 l3 c (i + 1) = if c ∈ upL l0 17 (rd_T42 l3 (i : Int)).f1 then cntB l0 l3 c i + 1 else cntB l0 l3 c i := by
  unfold cntB
  rw [List.range_succ, List.filter_append]
  by_cases h : c ∈ upL l0 17 (rd_T42 l3 (i : Int)).f1 <;> simp [h]
theorem cnt_le (c : Int) (i : Nat) : cntB l0 l3 c i ≤ i := by
  unfold cntB
  exact Nat.le_trans (List.length_filter_le _ _) (by simp)
theorem below_len (c : Int) : (belowL l0 l3 c).length = cntB l0 l3 c l3.length := by simp [belowL, cntB]
theorem below_mem (c : Int) (i : Nat) (hi : i < l3.length) : (i : Int) ∈ belowL l0 l3 c ↔ c ∈ upL l0 17 (rd_T42 l3 (i : Int)).f1 := by
  simp only [belowL, List.mem_map, List.mem_filter, List.mem_range, decide_eq_true_eq]
  constructor
  · rintro ⟨j, ⟨hj, h⟩, e⟩
    have : j = i := by omega
    subst this; exact h
  · intro h; exact ⟨i, ⟨hi, h⟩, rfl⟩
theorem below_inc (c : Int) (j : Nat) (hj : j + 1 < (belowL l0 l3 c).length) : rd (belowL l0 l3 c) j < rd (belowL l0 l3 c) (j + 1 : Nat) := by
  have hp : (belowL l0 l3 c).Pairwise (· < ·) := by
    unfold belowL
    rw [List.pairwise_map]
    exact (List.pairwise_lt_range.filter _).imp (fun h => by omega)
  have := List.pairwise_iff_getElem.1 hp j (j + 1) (by omega) hj (by omega)
  simpa [rd, List.getD_eq_getElem?_getD, hj, show j < (belowL l0 l3 c).length by omega] using this
theorem fs_zero (h : FineS l0 l1 l2 l3 l4) {a : Int} (h0 : 0 ≤ a) (h1 : a < l0.length) : (0 : Int) ∈ upL l0 17 a := by
  have P := fs_path h h0 h1
  have hp := P.pos
  have g := upL_get (l0 := l0) 17 a ((upL l0 17 a).length - 1) (by omega)
  rw [P.last] at g
  exact g.1 ▸ List.getElem_mem _
theorem below_zero (F : FineS l0 l1 l2 l3 l4) : ∀ i, i ≤ l3.length → cntB l0 l3 0 i = i
  | 0, _ => rfl
  | i + 1, h => by
    have a := F.at_ (a := (i : Int)) (by omega) (by omega)
    rw [cnt_succ, if_pos (fs_zero F a.1 a.2), below_zero F i (by omega)]
theorem tb_l2 (F : FineS l0 l1 l2 l3 l4) (c : Nat) (hc : c < l0.length) (hn : Evt (fun k => w08_TreeBelow.l0 k true l0.length (c + 1 : Nat) l0 l1 l2 l3 l4) true) : ∀ (e j : Nat), 1 ≤ j → (belowL l0 l3 c).length - j = e →
    Evt (fun k => w08_TreeBelow.l2 k true (belowL l0 l3 c) (belowL l0 l3 c).length j l0.length c l0 l1 l2 l3 l4) true := by
  have hlen : (belowL l0 l3 c).length ≤ 16 := by rw [below_len]; exact Nat.le_trans (cnt_le _ _) F.n3
  have hn0 := F.n0
  intro e
  induction e with
  | zero =>
    intro j hj he
    refine hn.step fun k _ => ?_
    simp only [w08_TreeBelow.l2]
    rw [if_neg (by omega), if_pos trivial, hb_wrap64 _ (by omega) (by omega)]; rfl
  | succ e ih =>
    intro j hj he
    refine (ih (j + 1) (by omega) (by omega)).step fun k _ => ?_
    obtain ⟨j, rfl⟩ : ∃ j', j = j' + 1 := ⟨j - 1, by omega⟩
    have hi := below_inc (l0 := l0) (l3 := l3) c j (by omega)
    simp only [w08_TreeBelow.l2]
    rw [hb_wrap64 (((j + 1 : Nat) : Int) - 1) (by omega) (by omega), hb_wrap64 (((j + 1 : Nat) : Int) + 1) (by omega) (by omega), show ((j + 1 : Nat) : Int) - 1 = (j : Int) by omega]
    rw [if_pos (by omega), if_pos (by omega), if_pos (by omega), if_pos (by omega), if_neg (by omega)]
    rfl
theorem tb_l1 (w : site_Valid.f l0 l1 l2 l3 l4 = some true) (F : FineS l0 l1 l2 l3 l4) (c : Nat) (hc : c < l0.length) (hn : Evt (fun k => w08_TreeBelow.l0 k true l0.length (c + 1 : Nat) l0 l1 l2 l3 l4) true) : ∀ (e i : Nat), i + e = l3.length →
    Evt (fun k => w08_TreeBelow.l1 k true c (belowL l0 l3 c) (cntB l0 l3 c i) l0.length c l3.length i l0 l1 l2 l3 l4) true := by
  have hn3 := F.n3
  intro e
  induction e with
  | zero =>
    intro i hi
    have hl : (cntB l0 l3 c i : Int) = (belowL l0 l3 c).length := by rw [below_len, show i = l3.length by omega]
    refine (tb_l2 F c hc hn _ 1 (by omega) rfl).step fun k _ => ?_
    simp only [w08_TreeBelow.l1]
    rw [if_neg (by omega), hl]; rfl
  | succ e ih =>
    intro i hi
    have hat := F.at_ (a := (i : Int)) (by omega) (by omega)
    have P := fs_path F hat.1 hat.2
    have hple := P.le
    have hcl := cnt_le (l0 := l0) (l3 := l3) c i
    have hlen : (belowL l0 l3 c).length ≤ 16 := by rw [below_len]; exact Nat.le_trans (cnt_le _ _) F.n3
    have hpath : tree_Path.f l0 l1 l2 l3 l4 i = some (upL l0 17 (rd_T42 l3 (i : Int)).f1, 0) := by
      unfold tree_Path.f
      rw [if_pos ⟨by omega, by omega⟩, w]; rfl
    have nx : Evt (fun k => w08_TreeBelow.j3 k true c (belowL l0 l3 c) (cntB l0 l3 c i) (upL l0 17 (rd_T42 l3 (i : Int)).f1) l0.length c l3.length i false l0 l1 l2 l3 l4) true := by
      refine (ih (i + 1) (by omega)).step fun k hk => ?_
      simp only [w08_TreeBelow.j3]
      rw [if_neg (by decide), in_ok _ _ k (by omega) (by omega), cnt_succ, hb_wrap64 ((i : Int) + 1) (by omega) (by omega), hb_wrap64 _ (by omega) (by omega)]
      simp only [Option.bind_some, decide_eq_true_eq]
      split <;> rfl
    refine nx.step fun k hk => ?_
    simp only [w08_TreeBelow.l1, hpath, Option.bind_some]
    rw [if_pos (by omega), if_pos trivial, in_ok _ _ k (by omega) (by omega), in_ok _ _ k (by omega) (by omega)]
    simp only [Option.bind_some]
    have hd : (decide ((c : Int) ∈ upL l0 17 (rd_T42 l3 (i : Int)).f1) != decide ((i : Int) ∈ belowL l0 l3 c)) = false := by
      have hm := below_mem (l0 := l0) (l3 := l3) (c : Int) i (by omega)
      by_cases q : (c : Int) ∈ upL l0 17 (rd_T42 l3 (i : Int)).f1
      · rw [decide_eq_true q, decide_eq_true (hm.2 q)]; rfl
      · rw [decide_eq_false q, decide_eq_false (fun z => q (hm.1 z))]; rfl
    rw [hd]
theorem tb_l0 (w : site_Valid.f l0 l1 l2 l3 l4 = some true) (F : FineS l0 l1 l2 l3 l4) : ∀ (d c : Nat), c + d = l0.length →
    Evt (fun k => w08_TreeBelow.l0 k true l0.length c l0 l1 l2 l3 l4) true := by
  intro d
  induction d with
  | zero => exact fun c hc => Evt.const fun k _ => by simp only [w08_TreeBelow.l0]; rw [if_neg (by omega)]
  | succ d ih =>
    intro c hc
    have hb : tree_Below.f l0 l1 l2 l3 l4 c = some (belowL l0 l3 c, 0) := by
      unfold tree_Below.f
      rw [if_pos ⟨by omega, by omega⟩, w]; rfl
    have n1 : Evt (fun k => w08_TreeBelow.j1 k true c (belowL l0 l3 c) l0.length c false l0 l1 l2 l3 l4) true := by
      refine (tb_l1 w F c (by omega) (ih (c + 1) (by omega)) l3.length 0 (by omega)).step fun k _ => ?_
      simp only [w08_TreeBelow.j1]
      rw [if_neg (by decide)]; rfl
    refine n1.step fun k _ => ?_
    simp only [w08_TreeBelow.l0, hb, Option.bind_some]
    rw [if_pos (by omega), if_pos trivial]
    by_cases hz : (c : Int) = 0
    · rw [if_pos hz]
      have : c = 0 := by omega
      subst this
      have hl : (belowL l0 l3 ((0 : Nat) : Int)).length = l3.length := by
        rw [below_len]; exact below_zero F _ (Nat.le_refl _)
      have hq : (((belowL l0 l3 ((0 : Nat) : Int)).length : Int) != (l3.length : Int)) = false := by rw [hl]; simp
      rw [hq]
    · rw [if_neg hz]
end
theorem TreeBelow : w08_TreeBelow.Pure := by
  intro s w
  obtain ⟨K1, hK1⟩ := head_ok
  obtain ⟨K2, hK2⟩ := usable_ok (hs_of w)
  cases hv : validB s.f0 s.f1 s.f2 s.f3 s.f4
  · refine ⟨K1 + K2, ?_⟩
    unfold w08_TreeBelow.f
    rw [show w08_head.f (K1 + K2) = some true from hK1 _ (by omega), show w08_usable.f (K1 + K2) _ _ _ _ _ = _ from hK2 _ (by omega), hv]
    rfl
  · have sv := sv_ok w
    rw [hv] at sv
    obtain ⟨K3, hK3⟩ := tb_l0 sv (valid_fine hv) s.f0.length 0 (by omega)
    refine ⟨K1 + K2 + K3, ?_⟩
    unfold w08_TreeBelow.f
    rw [show w08_head.f (K1 + K2 + K3) = some true from hK1 _ (by omega), show w08_usable.f (K1 + K2 + K3) _ _ _ _ _ = _ from hK2 _ (by omega), hv]
    exact hK3 _ (by omega)

end Go.Proofs.Ytpdmnineampimaa.Pure
