import Derived.Test.YtpdmnineampimaaYQx11
import Derived.Test.YtpdmnineampimaaYe
import Derived.Test.YtpdmnineampimaaYQx26
import Derived.Test.YtpdmnineampimaaYQx32
import Derived.Test.YtpdmnineampimaaYQx49
import Derived.Test.YtpdmnineampimaaYBvalid
set_option linter.unusedVariables false
set_option linter.unusedSimpArgs false
namespace Go.Proofs.Ytpdmnineampimaa.Basetree
open Go.RowKit Go.Proofs.Ytpdmnineampimaa.Q Go.Proofs.YtpdmnineampimaaW.PrintWords Go.Proofs.YtpdmnineampimaaW.PrintLast Go.Proofs.YtpdmnineampimaaW.PrintMore Go.Proofs.Ytpdmnineampimaa.Basevalid
theorem head_ok : Evt (fun k => w08_head.f k) true := by
  have h : w08_head.f 12 = some true := by decide +kernel
  refine ⟨12, fun k hk => ?_⟩
  show w08_head.f k = _
  obtain ⟨d, rfl⟩ : ∃ d, k = 12 + d := ⟨k - 12, by omega⟩
  clear hk
  induction d with
  | zero => exact h
  | succ d ih => exact w08_head.mono (12 + d) _ ih
section
variable {l0 : List S48} {l1 : List S62} {l2 : List S84} {l3 : List S42} {l4 : List S87}
theorem few_eq : r04_Few.f l0 l1 l2 l3 l4 = some (decide (l0.length ≤ 40) && decide (l1.length ≤ 40) && decide (l2.length ≤ 40) && decide (l3.length ≤ 40) && decide (l4.length ≤ 40)) := by
  unfold r04_Few.f
  by_cases h0 : l0.length ≤ 40
  · rw [if_pos (by omega), decide_eq_true h0]
    by_cases h1 : l1.length ≤ 40
    · rw [if_pos (by omega), decide_eq_true h1]
      by_cases h2 : l2.length ≤ 40
      · rw [if_pos (by omega), decide_eq_true h2]
        by_cases h3 : l3.length ≤ 40
        · rw [if_pos (by omega), decide_eq_true h3]
          simp only [Bool.true_and, Option.some.injEq, decide_eq_decide]; omega
        · rw [if_neg (by omega), decide_eq_false h3]; simp
      · rw [if_neg (by omega), decide_eq_false h2]; simp
    · rw [if_neg (by omega), decide_eq_false h1]; simp
  · rw [if_neg (by omega), decide_eq_false h0]; simp
theorem usable_ok (hs : ∀ x ∈ allNames l0 l1 l2 l3 l4, x.size ≤ maxLen) : Evt (fun k => w08_usable.f k l0 l1 l2 l3 l4) (validB l0 l1 l2 l3 l4) := by
  obtain ⟨K, hK⟩ := valid_ok l0 l1 l2 l3 l4 hs
  refine ⟨K, fun k hk => ?_⟩
  show w08_usable.f k l0 l1 l2 l3 l4 = _
  unfold w08_usable.f
  have h := hK k hk
  rw [few_eq, Option.bind_some, show r04_Valid.f k l0 l1 l2 l3 l4 = _ from h]
  cases hv : validB l0 l1 l2 l3 l4
  · split <;> rfl
  · have F := valid_fine hv
    have := F.n0; have := F.n1; have := F.n2; have := F.n3; have := F.n4
    rw [decide_eq_true (by omega), decide_eq_true (by omega), decide_eq_true (by omega), decide_eq_true (by omega), decide_eq_true (by omega)]; rfl
theorem hs_of {s : S28} (w : wfS28 s) : ∀ x ∈ allNames s.f0 s.f1 s.f2 s.f3 s.f4, x.size ≤ maxLen := by
  intro x hx
  simp only [allNames, List.mem_append, List.mem_map] at hx
  rcases hx with (((⟨y, hy, rfl⟩ | ⟨y, hy, rfl⟩) | ⟨y, hy, rfl⟩) | ⟨y, hy, rfl⟩) | ⟨y, hy, rfl⟩
  · exact (w.1.2 y hy).1
  · exact w.2.1.2 y hy
  · exact (w.2.2.1.2 y hy).1
  · exact (w.2.2.2.1.2 y hy).1
  · exact (w.2.2.2.2.2 y hy).1
theorem sv_ok {s : S28} (w : wfS28 s) : site_Valid.f s.f0 s.f1 s.f2 s.f3 s.f4 = some (validB s.f0 s.f1 s.f2 s.f3 s.f4) := by
  unfold site_Valid.f
  rw [if_pos]
  unfold fitsB
  exact decide_eq_true ⟨fun y hy => (w.1.2 y hy).1, fun y hy => w.2.1.2 y hy, fun y hy => (w.2.2.1.2 y hy).1, fun y hy => (w.2.2.2.1.2 y hy).1, fun y hy => (w.2.2.2.2.2 y hy).1, fun y hy => (w.2.2.1.2 y hy).2.2.2⟩
theorem fs_root (h : FineS l0 l1 l2 l3 l4) {a : Int} (h0 : 0 ≤ a) (h1 : a < l0.length) : ((rd_T48 l0 a).f1 < 0 ↔ a = 0) ∧ (0 < a → 0 ≤ (rd_T48 l0 a).f1 ∧ (rd_T48 l0 a).f1 < a) ∧ -1 ≤ (rd_T48 l0 a).f1 := by
  obtain ⟨n, rfl⟩ : ∃ n : Nat, a = (n : Int) := Int.eq_ofNat_of_zero_le h0
  have c := h.cond n (by omega)
  unfold condB at c
  simp only [Bool.and_eq_true, Bool.or_eq_true, decide_eq_true_eq, ins] at c
  obtain ⟨⟨⟨⟨c, _⟩, _⟩, _⟩, _⟩ := c
  omega
structure PathF (l0 : List S48) (a : Int) (p : List Int) : Prop where
  pos : 0 < p.length
  le : p.length ≤ 17
  get : ∀ i : Nat, i < p.length → rd p i = itUp l0 a i ∧ 0 ≤ itUp l0 a i ∧ itUp l0 a i < l0.length
  next : ∀ i : Nat, i + 1 < p.length → (rd_T48 l0 (itUp l0 a i)).f1 = itUp l0 a (i + 1) ∧ itUp l0 a (i + 1) < itUp l0 a i
  last : itUp l0 a (p.length - 1) = 0
theorem fs_path (h : FineS l0 l1 l2 l3 l4) {a : Int} (h0 : 0 ≤ a) (h1 : a < l0.length) : PathF l0 a (upL l0 17 a) := by
  have hn := h.n0
  have hpos : 0 < (upL l0 17 a).length := by
    unfold upL
    rw [if_neg (by omega)]; simp
  have hb : ∀ i : Nat, i < (upL l0 17 a).length → itUp l0 a i < l0.length := fun i hi =>
    (itUp_bd h.up i a (by omega) h1 (fun j hj => (upL_get 17 a j (by omega)).2)).2
  refine ⟨hpos, upL_len l0 17 a, fun i hi => ?_, fun i hi => ?_, ?_⟩
  · have g := upL_get (l0 := l0) 17 a i hi
    refine ⟨?_, g.2, hb i hi⟩
    rw [← g.1]; simp [rd, List.getD_eq_getElem?_getD, hi]
  · have e := itUp_succ l0 i a
    refine ⟨e.symm, ?_⟩
    have g := (upL_get (l0 := l0) 17 a (i + 1) hi).2
    have g0 := (upL_get (l0 := l0) 17 a i (by omega)).2
    have r := fs_root h g0 (hb i (by omega))
    rw [e] at g ⊢
    by_cases z : 0 < itUp l0 a i
    · exact (r.2.1 z).2
    · have : itUp l0 a i = 0 := by omega
      have := r.1.2 this
      omega
  · have e := upL_end h.up 17 a h1 (by omega)
    have g0 := (upL_get (l0 := l0) 17 a ((upL l0 17 a).length - 1) (by omega)).2
    have r := fs_root h g0 (hb _ (by omega))
    have e2 := itUp_succ l0 ((upL l0 17 a).length - 1) a
    rw [show (upL l0 17 a).length - 1 + 1 = (upL l0 17 a).length by omega] at e2
    rw [e2] at e
    exact r.1.1 e
theorem PathF.dec {a : Int} {p : List Int} (P : PathF l0 a p) (i : Nat) : ∀ d, i + d + 1 < p.length → itUp l0 a (i + d + 1) < itUp l0 a i
  | 0, h => (P.next i h).2
  | d + 1, h => Int.lt_trans (P.next (i + d + 1) h).2 (P.dec i d (by omega))
theorem PathF.elem {a : Int} {p : List Int} (P : PathF l0 a p) {i : Nat} (h : i < p.length) : p[i] = itUp l0 a i := by
  have := (P.get i h).1
  simpa [rd, List.getD_eq_getElem?_getD, h] using this
theorem PathF.nodup {a : Int} {p : List Int} (P : PathF l0 a p) : p.Nodup := by
  unfold List.Nodup
  rw [List.pairwise_iff_getElem]
  intro i j hi hj hij
  rw [P.elem hi, P.elem hj]
  have := P.dec i (j - i - 1) (by omega)
  rw [show i + (j - i - 1) + 1 = j by omega] at this
  omega
theorem PathF.rng {a : Int} {p : List Int} (P : PathF l0 a p) : ∀ x ∈ p, 0 ≤ x ∧ x < l0.length := by
  intro x hx
  obtain ⟨i, hi, rfl⟩ := List.mem_iff_getElem.1 hx
  rw [P.elem hi]
  exact (P.get i hi).2
end
end Go.Proofs.Ytpdmnineampimaa.Basetree
