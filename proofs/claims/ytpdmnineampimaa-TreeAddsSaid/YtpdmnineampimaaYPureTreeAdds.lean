/-
For every site and two lists of bytes: the loads for sums of currents are the sums of the loads.
-/
import Derived.Test.YtpdmnineampimaaYQx55
import Derived.Test.YtpdmnineampimaaYBvalid
import Derived.Test.YtpdmnineampimaaYBtree
import Derived.Test.YtpdmnineampimaaYBloads
namespace Go.Proofs.Ytpdmnineampimaa.Pure
open Go.RowKit Go.Proofs.Ytpdmnineampimaa.Q Go.Proofs.YtpdmnineampimaaW.PrintWords Go.Proofs.YtpdmnineampimaaW.PrintLast Go.Proofs.YtpdmnineampimaaW.PrintMore Go.Proofs.Ytpdmnineampimaa.Basevalid Go.Proofs.Ytpdmnineampimaa.Basetree Go.Proofs.Ytpdmnineampimaa.Baseloads

section
variable {l0 : List S48} {l1 : List S62} {l2 : List S84} {l3 : List S42} {l4 : List S87}
theorem sum_add {a b s : List Int} {n : Nat} (h : ∀ j : Nat, j < n → rd s j = rd a j + rd b j) (c : Int) (p : Nat) : ∀ i, i ≤ n → sumL l0 l3 s c p i = sumL l0 l3 a c p i + sumL l0 l3 b c p i
  | 0, _ => rfl
  | i + 1, hi => by
    have := h i (by omega)
    simp only [sumL, sum_add h c p i (by omega)]
    split <;> omega
structure AddI (n : Nat) (a : List Int) (i : Nat) (b s : List Int) : Prop where
  lb : b.length = n
  ls : s.length = n
  get : ∀ j : Nat, j < n → 0 ≤ rd b j ∧ rd a j + rd b j ≤ 80 ∧ 0 ≤ rd s j ∧ rd s j ≤ 80
  eq : ∀ j : Nat, j < i → rd s j = rd a j + rd b j
theorem rd_set_self {l : List Int} {i : Nat} {v : Int} (h : i < l.length) : rd (l.set i v) (i : Int) = v := by simp [rd, List.getD_eq_getElem?_getD, h]
theorem rd_set_ne {l : List Int} {i j : Nat} {v : Int} (h : i ≠ j) : rd (l.set i v) (j : Int) = rd l j := by simp [rd, List.getD_eq_getElem?_getD, List.getElem?_set_ne h]
theorem ta_l1 (F : FineS l0 l1 l2 l3 l4) {a b s : List Int} (ha : AmpsF l3.length a) (hb : AmpsF l3.length b) (hs : AmpsF l3.length s) (h : ∀ j : Nat, j < l3.length → rd s j = rd a j + rd b j) : ∀ (d c : Nat), c + d = l0.length →
    Evt (fun k => w08_TreeAdds.l1 k true (loadsV l0 l3 a) (loadsV l0 l3 b) (loadsV l0 l3 s) l0.length c) true := by
  have hn0 := F.n0
  have hn3 := F.n3
  have la := loadsV_len (l0 := l0) (l3 := l3) a
  have lb := loadsV_len (l0 := l0) (l3 := l3) b
  have ls := loadsV_len (l0 := l0) (l3 := l3) s
  intro d
  induction d with
  | zero =>
    intro c hc
    refine Evt.const fun k _ => ?_
    simp only [w08_TreeAdds.l1]
    rw [if_neg (by omega)]
  | succ d ih =>
    intro c hc
    have ga := loads_at F ha.get c (by omega)
    have gb := loads_at F hb.get c (by omega)
    have gs := loads_at F hs.get c (by omega)
    have a0 := sum_bd (l0 := l0) (l3 := l3) ha.get c 0 l3.length (Nat.le_refl _)
    have a1 := sum_bd (l0 := l0) (l3 := l3) ha.get c 1 l3.length (Nat.le_refl _)
    have a2 := sum_bd (l0 := l0) (l3 := l3) ha.get c 2 l3.length (Nat.le_refl _)
    have b0 := sum_bd (l0 := l0) (l3 := l3) hb.get c 0 l3.length (Nat.le_refl _)
    have b1 := sum_bd (l0 := l0) (l3 := l3) hb.get c 1 l3.length (Nat.le_refl _)
    have b2 := sum_bd (l0 := l0) (l3 := l3) hb.get c 2 l3.length (Nat.le_refl _)
    have e0 := sum_add (l0 := l0) (l3 := l3) h c 0 l3.length (Nat.le_refl _)
    have e1 := sum_add (l0 := l0) (l3 := l3) h c 1 l3.length (Nat.le_refl _)
    have e2 := sum_add (l0 := l0) (l3 := l3) h c 2 l3.length (Nat.le_refl _)
    have s3 : Evt (fun k => w08_TreeAdds.l2 k true (loadsV l0 l3 a) (loadsV l0 l3 b) (loadsV l0 l3 s) c l0.length c 3) true := by
      refine (ih (c + 1) (by omega)).step fun k _ => ?_
      simp only [w08_TreeAdds.l2]
      rw [if_neg (by omega), hb_wrap64 _ (by omega) (by omega)]; rfl
    have s2 : Evt (fun k => w08_TreeAdds.l2 k true (loadsV l0 l3 a) (loadsV l0 l3 b) (loadsV l0 l3 s) c l0.length c 2) true := by
      refine s3.step fun k _ => ?_
      simp only [w08_TreeAdds.l2, la, lb, ls, ga, gb, gs]
      rw [if_pos (by omega), if_pos (by omega), if_pos (by omega), if_neg (by omega), if_neg (by omega), if_pos trivial, if_pos (by omega), if_pos (by omega), if_pos (by rw [hb_wrap64 _ (by omega) (by omega)]; exact e2), hb_wrap64 _ (by omega) (by omega)]; rfl
    have s1 : Evt (fun k => w08_TreeAdds.l2 k true (loadsV l0 l3 a) (loadsV l0 l3 b) (loadsV l0 l3 s) c l0.length c 1) true := by
      refine s2.step fun k _ => ?_
      simp only [w08_TreeAdds.l2, la, lb, ls, ga, gb, gs]
      rw [if_pos (by omega), if_pos (by omega), if_pos (by omega), if_neg (by omega), if_pos trivial, if_pos (by omega), if_pos (by omega), if_pos (by rw [hb_wrap64 _ (by omega) (by omega)]; exact e1), hb_wrap64 _ (by omega) (by omega)]; rfl
    have s0 : Evt (fun k => w08_TreeAdds.l2 k true (loadsV l0 l3 a) (loadsV l0 l3 b) (loadsV l0 l3 s) c l0.length c 0) true := by
      refine s1.step fun k _ => ?_
      simp only [w08_TreeAdds.l2, la, lb, ls, ga, gb, gs]
      rw [if_pos (by omega), if_pos (by omega), if_pos (by omega), if_pos trivial, if_pos (by omega), if_pos (by omega), if_pos (by rw [hb_wrap64 _ (by omega) (by omega)]; exact e0), hb_wrap64 _ (by omega) (by omega)]; rfl
    refine s0.step fun k _ => ?_
    simp only [w08_TreeAdds.l1]
    rw [if_pos (by omega)]
theorem ta_l0 (w : site_Valid.f l0 l1 l2 l3 l4 = some true) (F : FineS l0 l1 l2 l3 l4) (more : List Int) (hm : ∀ x ∈ more, (Lit.int .u8 x).wf = true) {a : List Int} (ha : AmpsF l3.length a) : ∀ (d i : Nat) (b s : List Int), i + d = l3.length → AddI l3.length a i b s →
    Evt (fun k => w08_TreeAdds.l0 k more true a b s l3.length i l0 l1 l2 l3 l4) true
  | 0, i, b, s, hi, hI => by
    have hA := ha.get
    have hb : AmpsF l3.length b := ⟨hI.lb, fun j hj => by have := hI.get j hj; have := hA j hj; omega⟩
    have hs : AmpsF l3.length s := ⟨hI.ls, fun j hj => by have := hI.get j hj; omega⟩
    have n1 : Evt (fun k => w08_TreeAdds.j1 k true (loadsV l0 l3 a) (loadsV l0 l3 b) (loadsV l0 l3 s) false) true := by
      refine (ta_l1 F ha hb hs (fun j hj => hI.eq j (by omega)) l0.length 0 (by omega)).step fun k _ => ?_
      simp only [w08_TreeAdds.j1]
      rw [if_neg (by decide), loadsV_len]; rfl
    refine n1.step fun k _ => ?_
    simp only [w08_TreeAdds.l0, lds_ok w F ha, lds_ok w F hb, lds_ok w F hs, Option.bind_some]
    rw [if_neg (by omega), if_pos trivial, if_pos trivial]; rfl
  | d + 1, i, b, s, hi, hI => by
    have hn3 := F.n3
    have hA := ha.get i (by omega)
    have hl := ha.len
    have hlb := hI.lb
    have hls := hI.ls
    have hg := hI.get i (by omega)
    by_cases hlt : i < more.length
    · have hx := wf_u8 (hm more[i] (List.getElem_mem hlt))
      have e : rd more (i : Int) = more[i] := by simp [rd, List.getD_eq_getElem?_getD, hlt]
      have hm0 : 0 ≤ Int.tmod more[i] (81 - rd a i) := by rw [Int.tmod_eq_emod_of_nonneg hx.1]; exact Int.emod_nonneg _ (by omega)
      have hm1 : Int.tmod more[i] (81 - rd a i) < 81 - rd a i := by rw [Int.tmod_eq_emod_of_nonneg hx.1]; exact Int.emod_lt_of_pos _ (by omega)
      generalize hv : Int.tmod more[i] (81 - rd a i) = v at hm0 hm1
      have rb : rd (b.set i v) (i : Int) = v := rd_set_self (by omega)
      refine (ta_l0 w F more hm ha d (i + 1) (b.set i v) (s.set i (rd a i + v)) (by omega) ⟨by simp [hlb], by simp [hls], fun j hj => ?_, fun j hj => ?_⟩).step fun k _ => ?_
      · by_cases hij : i = j
        · subst hij; rw [rb, rd_set_self (by omega)]; omega
        · rw [rd_set_ne hij, rd_set_ne hij]; exact hI.get j hj
      · by_cases hij : i = j
        · subst hij; rw [rb, rd_set_self (by omega)]
        · rw [rd_set_ne hij, rd_set_ne hij]; exact hI.eq j (by omega)
      · simp only [w08_TreeAdds.l0]
        rw [e, hb_wrap64 (81 - _) (by omega) (by omega), hb_wrap64 more[i] (by omega) (by omega), hv, Int.toNat_natCast]
        simp only [Option.bind_some, rb]
        rw [if_pos (by omega), if_pos (by omega), if_pos (by omega), if_pos (by omega), if_neg (by omega), if_pos (by omega), if_pos (by omega), hb_wrap64 (_ + v) (by omega) (by omega), hb_wrap64 _ (by omega) (by omega)]; rfl
    · refine (ta_l0 w F more hm ha d (i + 1) b (s.set i (rd a i + rd b i)) (by omega) ⟨hlb, by simp [hls], fun j hj => ?_, fun j hj => ?_⟩).step fun k _ => ?_
      · by_cases hij : i = j
        · subst hij; rw [rd_set_self (by omega)]; omega
        · rw [rd_set_ne hij]; exact hI.get j hj
      · by_cases hij : i = j
        · subst hij; rw [rd_set_self (by omega)]
        · rw [rd_set_ne hij]; exact hI.eq j (by omega)
      · simp only [w08_TreeAdds.l0]
        rw [if_pos (by omega), if_neg (by omega), if_pos (by omega), if_pos (by omega), if_pos (by omega), if_pos (by omega), hb_wrap64 (rd a i + rd b i) (by omega) (by omega), hb_wrap64 _ (by omega) (by omega), Int.toNat_natCast]; rfl
end
theorem TreeAdds : w08_TreeAdds.Pure := by
  intro s l m w wl wm
  obtain ⟨K1, hK1⟩ := head_ok
  obtain ⟨K2, hK2⟩ := usable_ok (hs_of w)
  cases hv : validB s.f0 s.f1 s.f2 s.f3 s.f4
  · refine ⟨K1 + K2, ?_⟩
    unfold w08_TreeAdds.f
    rw [show w08_head.f (K1 + K2) = some true from hK1 _ (by omega), show w08_usable.f (K1 + K2) _ _ _ _ _ = _ from hK2 _ (by omega), hv]
    rfl
  · have sv := sv_ok w
    rw [hv] at sv
    have F := valid_fine hv
    have hn3 := F.n3
    obtain ⟨cs, ⟨K3, hK3⟩, hA⟩ := cur_ok (l0 := s.f0) (l1 := s.f1) (l2 := s.f2) (l3 := s.f3) (l4 := s.f4) l wl.2 (by omega)
    have hz : ∀ j : Nat, j < s.f3.length → rd (List.replicate s.f3.length 0) (j : Int) = 0 := fun j hj => by simp [rd, List.getD_eq_getElem?_getD, hj]
    obtain ⟨K4, hK4⟩ := ta_l0 sv F m wm.2 hA s.f3.length 0 (List.replicate s.f3.length 0) (List.replicate s.f3.length 0) (by omega) ⟨by simp, by simp, fun j hj => by rw [hz j hj]; have := hA.get j hj; omega, fun j hj => by omega⟩
    refine ⟨K1 + K2 + K3 + K4, ?_⟩
    unfold w08_TreeAdds.f
    rw [show w08_head.f (K1 + K2 + K3 + K4) = some true from hK1 _ (by omega), show w08_usable.f (K1 + K2 + K3 + K4) _ _ _ _ _ = _ from hK2 _ (by omega), hv,
      show w08_currents.f (K1 + K2 + K3 + K4) _ _ _ _ _ _ = _ from hK3 _ (by omega)]
    simp only [Option.bind_some, if_true, hA.len]
    rw [if_pos (by omega), if_pos (by omega), Int.toNat_natCast]
    exact hK4 _ (by omega)

end Go.Proofs.Ytpdmnineampimaa.Pure
