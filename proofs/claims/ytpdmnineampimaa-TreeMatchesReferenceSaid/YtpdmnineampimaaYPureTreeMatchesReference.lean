/-
For every site with few things, up to 40 currents and indices: Path, Loads and Below return what the reference implementation returns.
-/
import Derived.Test.YtpdmnineampimaaYQx48
import Derived.Test.YtpdmnineampimaaYQx28
import Derived.Test.YtpdmnineampimaaYQx29
import Derived.Test.YtpdmnineampimaaYQx30
import Derived.Test.YtpdmnineampimaaYQx42
import Derived.Test.YtpdmnineampimaaYQx46
import Derived.Test.YtpdmnineampimaaYQx47
import Derived.Test.YtpdmnineampimaaYBvalid
import Derived.Test.YtpdmnineampimaaYBtree
import Derived.Test.YtpdmnineampimaaYBloads
set_option linter.unusedVariables false
set_option linter.unusedSimpArgs false
namespace Go.Proofs.Ytpdmnineampimaa.Pure
open Go.RowKit Go.Proofs.Ytpdmnineampimaa.Q Go.Proofs.YtpdmnineampimaaW.PrintWords Go.Proofs.YtpdmnineampimaaW.PrintLast Go.Proofs.YtpdmnineampimaaW.PrintMore Go.Proofs.Ytpdmnineampimaa.Basevalid Go.Proofs.Ytpdmnineampimaa.Basetree Go.Proofs.Ytpdmnineampimaa.Baseloads

section
variable {l0 : List S48} {l1 : List S62} {l2 : List S84} {l3 : List S42} {l4 : List S87}
theorem ints_self (l : List Int) (hl : l.length < 1000000) : Evt (fun k => r04_Ints.f k l l) true := by
  have key : ∀ (d i : Nat), i + d = l.length → Evt (fun k => r04_Ints.l0 k l l i) true := by
    intro d
    induction d with
    | zero => exact fun i hi => Evt.const fun k _ => by simp only [r04_Ints.l0]; rw [if_neg (by omega)]
    | succ d ih =>
      intro i hi
      refine (ih (i + 1) (by omega)).step fun k _ => ?_
      simp only [r04_Ints.l0]
      rw [if_pos (by omega), if_pos (by omega), if_pos (by omega), if_pos trivial, hb_wrap64 _ (by omega) (by omega)]; rfl
  obtain ⟨K, hK⟩ := key l.length 0 (by omega)
  refine ⟨K, fun k hk => ?_⟩
  show r04_Ints.f k l l = _
  unfold r04_Ints.f
  rw [if_pos rfl]
  exact hK k hk
theorem same_self (l : List S55) (hl : l.length < 1000000) : Evt (fun k => r08_Same.f k l l) true := by
  have key : ∀ (d i : Nat), i + d = l.length → Evt (fun k => r08_Same.l0 k l l i) true := by
    intro d
    induction d with
    | zero => exact fun i hi => Evt.const fun k _ => by simp only [r08_Same.l0]; rw [if_neg (by omega)]
    | succ d ih =>
      intro i hi
      refine (ih (i + 1) (by omega)).step fun k _ => ?_
      simp only [r08_Same.l0]
      rw [if_pos (by omega), if_pos (by omega), if_pos (by omega), if_neg (by simp), hb_wrap64 _ (by omega) (by omega)]; rfl
  obtain ⟨K, hK⟩ := key l.length 0 (by omega)
  refine ⟨K, fun k hk => ?_⟩
  show r08_Same.f k l l = _
  unfold r08_Same.f
  rw [if_pos rfl]
  exact hK k hk
theorem on_l0 (F : FineS l0 l1 l2 l3 l4) (c : Int) : ∀ (K : Nat) (a : Int) (k : Nat), -1 ≤ a → a < l0.length → a < K → K < k →
    r08_On.l0 k c a l0 l1 l2 l3 l4 = some (decide (c ∈ upL l0 K a))
  | 0, a, k, h0, h1, h2, hk => by
    obtain ⟨k, rfl⟩ : ∃ k', k = k' + 1 := ⟨k - 1, by omega⟩
    simp only [r08_On.l0]
    rw [if_neg (by omega)]; rfl
  | K + 1, a, k, h0, h1, h2, hk => by
    obtain ⟨k, rfl⟩ : ∃ k', k = k' + 1 := ⟨k - 1, by omega⟩
    simp only [r08_On.l0]
    by_cases n : a < 0
    · rw [if_neg (by omega)]
      unfold upL
      rw [if_pos n]; rfl
    · rw [if_pos (by omega)]
      have u := F.up.at (by omega) h1
      have e : upL l0 (K + 1) a = a :: upL l0 K (rd_T48 l0 a).f1 := by
        conv => lhs; unfold upL
        rw [if_neg n]
      rw [e]
      by_cases q : a = c
      · rw [if_pos q, decide_eq_true (by rw [q]; exact List.mem_cons_self ..)]
      · rw [if_neg q, if_pos (by omega), if_pos h1, on_l0 F c K _ k u.1 (by omega) (by omega) (by omega)]
        have e2 : (c ∈ a :: upL l0 K (rd_T48 l0 a).f1) ↔ c ∈ upL l0 K (rd_T48 l0 a).f1 := ⟨fun h => (List.mem_cons.1 h).resolve_left (fun z => q z.symm), List.mem_cons_of_mem _⟩
        rw [decide_eq_decide.2 e2]
theorem on_ok (F : FineS l0 l1 l2 l3 l4) (c : Int) {i : Nat} (hi : i < l3.length) (k : Nat) (hk : 40 ≤ k) : r08_On.f k l0 l1 l2 l3 l4 c (rd_T42 l3 (i : Int)).f1 = some (decide (c ∈ wayL l0 l3 i)) := by
  have a := F.at_ (a := (i : Int)) (by omega) (by omega)
  have hn0 := F.n0
  unfold r08_On.f wayL
  exact on_l0 F c 17 _ k (by omega) a.2 (by omega) (by omega)
theorem path_l0 (F : FineS l0 l1 l2 l3 l4) : ∀ (K : Nat) (a : Int) (acc : List Int), K ≤ 40 → -1 ≤ a → a < l0.length → a < K → acc.length + K < 1000 →
    Evt (fun k => r08_Path.l0 k acc a l0 l1 l2 l3 l4) (acc ++ upL l0 K a, 0)
  | 0, a, acc, hK, h0, h1, h2, hl => Evt.const fun k _ => by
    simp only [r08_Path.l0]
    rw [if_neg (by omega)]; simp [upL]
  | K + 1, a, acc, hK, h0, h1, h2, hl => by
    by_cases n : a < 0
    · refine Evt.const fun k _ => ?_
      simp only [r08_Path.l0]
      rw [if_neg (by omega)]
      unfold upL
      rw [if_pos n]; simp
    · have u := F.up.at (by omega) h1
      have e : acc ++ upL l0 (K + 1) a = acc ++ [a] ++ upL l0 K (rd_T48 l0 a).f1 := by
        conv => lhs; unfold upL
        rw [if_neg n]; simp
      rw [e]
      refine (path_l0 F K _ (acc ++ [a]) (by omega) u.1 (by omega) (by omega) (by simp; omega)).step fun k _ => ?_
      simp only [r08_Path.l0]
      rw [if_pos (by omega), if_pos (by omega), if_pos (by omega), if_pos h1]
/-- one value of the program's path, whatever the index -/
theorem mpath (hs : ∀ x ∈ allNames l0 l1 l2 l3 l4, x.size ≤ maxLen) (sv : site_Valid.f l0 l1 l2 l3 l4 = some (validB l0 l1 l2 l3 l4)) (a : Int) : ∃ P : List Int × Int, tree_Path.f l0 l1 l2 l3 l4 a = some P ∧ P.1.length < 1000000 ∧ Evt (fun k => r08_Path.f k l0 l1 l2 l3 l4 a) P := by
  obtain ⟨K, hK⟩ := valid_ok l0 l1 l2 l3 l4 hs
  have jt : ∀ k, r08_Path.j0 (k + 1) a true l0 l1 l2 l3 l4 = some ([], 1) := fun k => by simp [r08_Path.j0]
  have bad : (∀ k, K ≤ k → r08_Path.f (k + 1) l0 l1 l2 l3 l4 a = some ([], 1)) → Evt (fun k => r08_Path.f k l0 l1 l2 l3 l4 a) ([], 1) := fun h => ⟨K + 1, fun k hk => by
    obtain ⟨k, rfl⟩ : ∃ k', k = k' + 1 := ⟨k - 1, by omega⟩
    exact h k (by omega)⟩
  have ev : ∀ k, K ≤ k → r04_Valid.f k l0 l1 l2 l3 l4 = some (validB l0 l1 l2 l3 l4) := hK
  unfold tree_Path.f
  by_cases r : 0 ≤ a ∧ a < l3.length
  · rw [if_pos r, sv]
    cases hv : validB l0 l1 l2 l3 l4
    · refine ⟨([], 1), rfl, by simp, bad fun k hk => ?_⟩
      unfold r08_Path.f
      rw [ev _ (by omega), hv]
      exact jt k
    · have F := valid_fine hv
      have hn0 := F.n0
      have at_ := F.at_ r.1 r.2
      obtain ⟨K2, hK2⟩ := path_l0 F 17 (rd_T42 l3 a).f1 [] (by omega) (by omega) at_.2 (by omega) (by simp)
      refine ⟨(upL l0 17 (rd_T42 l3 a).f1, 0), rfl, by have := upL_len l0 17 (rd_T42 l3 a).f1; show (upL _ _ _).length < _; omega, ⟨K + K2 + 1, fun k hk => ?_⟩⟩
      obtain ⟨k, rfl⟩ : ∃ k', k = k' + 1 := ⟨k - 1, by omega⟩
      show r08_Path.f (k + 1) l0 l1 l2 l3 l4 a = _
      unfold r08_Path.f
      rw [ev _ (by omega), hv, Option.bind_some, if_pos rfl, if_neg (by omega), decide_eq_false (by omega)]
      simp only [r08_Path.j0]
      rw [if_neg (by decide), if_pos r.1, if_pos r.2]
      exact hK2 k (by omega)
  · rw [if_neg r]
    refine ⟨([], 1), rfl, by simp, bad fun k hk => ?_⟩
    unfold r08_Path.f
    rw [ev _ (by omega), Option.bind_some]
    cases hv : validB l0 l1 l2 l3 l4
    · exact jt k
    · rw [if_pos rfl]
      by_cases n : a < 0
      · rw [if_pos n]; exact jt k
      · rw [if_neg n, decide_eq_true (by omega)]; exact jt k
theorem below_l0 (F : FineS l0 l1 l2 l3 l4) (c : Int) : ∀ (d i : Nat) (acc : List Int), i + d = l3.length → acc.length ≤ i →
    Evt (fun k => r08_Below.l0 k c acc i l0 l1 l2 l3 l4) (acc ++ ((List.range' i d).filter fun (j : Nat) => decide (c ∈ upL l0 17 (rd_T42 l3 (j : Int)).f1)).map (fun (j : Nat) => (j : Int)), 0)
  | 0, i, acc, hi, hl => Evt.const fun k _ => by
    simp only [r08_Below.l0]
    rw [if_neg (by omega)]; simp
  | d + 1, i, acc, hi, hl => by
    have hn3 := F.n3
    by_cases m : c ∈ wayL l0 l3 i
    · have e : acc ++ ((List.range' i (d + 1)).filter fun (j : Nat) => decide (c ∈ upL l0 17 (rd_T42 l3 (j : Int)).f1)).map (fun (j : Nat) => (j : Int)) = acc ++ [(i : Int)] ++ ((List.range' (i + 1) d).filter fun (j : Nat) => decide (c ∈ upL l0 17 (rd_T42 l3 (j : Int)).f1)).map (fun (j : Nat) => (j : Int)) := by
        rw [List.range'_succ, List.filter_cons, if_pos (show decide (c ∈ upL l0 17 (rd_T42 l3 (i : Int)).f1) = true from decide_eq_true m)]; simp
      rw [e]
      refine (below_l0 F c d (i + 1) (acc ++ [(i : Int)]) (by omega) (by simp; omega)).step fun k hk => ?_
      simp only [r08_Below.l0]
      rw [if_pos (by omega), if_pos (by omega), on_ok F c (by omega) k hk, decide_eq_true m, Option.bind_some, if_pos rfl, if_pos (by omega), hb_wrap64 _ (by omega) (by omega)]; rfl
    · have e : acc ++ ((List.range' i (d + 1)).filter fun (j : Nat) => decide (c ∈ upL l0 17 (rd_T42 l3 (j : Int)).f1)).map (fun (j : Nat) => (j : Int)) = acc ++ ((List.range' (i + 1) d).filter fun (j : Nat) => decide (c ∈ upL l0 17 (rd_T42 l3 (j : Int)).f1)).map (fun (j : Nat) => (j : Int)) := by
        rw [List.range'_succ, List.filter_cons, if_neg (show ¬ decide (c ∈ upL l0 17 (rd_T42 l3 (i : Int)).f1) = true from fun h => m (of_decide_eq_true h))]
      rw [e]
      refine (below_l0 F c d (i + 1) acc (by omega) (by omega)).step fun k hk => ?_
      simp only [r08_Below.l0]
      rw [if_pos (by omega), if_pos (by omega), on_ok F c (by omega) k hk, decide_eq_false m, Option.bind_some, if_neg (by decide), hb_wrap64 _ (by omega) (by omega)]; rfl
theorem mbelow (hs : ∀ x ∈ allNames l0 l1 l2 l3 l4, x.size ≤ maxLen) (sv : site_Valid.f l0 l1 l2 l3 l4 = some (validB l0 l1 l2 l3 l4)) (a : Int) : ∃ P : List Int × Int, tree_Below.f l0 l1 l2 l3 l4 a = some P ∧ P.1.length < 1000000 ∧ Evt (fun k => r08_Below.f k l0 l1 l2 l3 l4 a) P := by
  obtain ⟨K, hK⟩ := valid_ok l0 l1 l2 l3 l4 hs
  have jt : ∀ k, r08_Below.j0 (k + 1) a true l0 l1 l2 l3 l4 = some ([], 1) := fun k => by simp [r08_Below.j0]
  have bad : (∀ k, K ≤ k → r08_Below.f (k + 1) l0 l1 l2 l3 l4 a = some ([], 1)) → Evt (fun k => r08_Below.f k l0 l1 l2 l3 l4 a) ([], 1) := fun h => ⟨K + 1, fun k hk => by
    obtain ⟨k, rfl⟩ : ∃ k', k = k' + 1 := ⟨k - 1, by omega⟩
    exact h k (by omega)⟩
  have ev : ∀ k, K ≤ k → r04_Valid.f k l0 l1 l2 l3 l4 = some (validB l0 l1 l2 l3 l4) := hK
  unfold tree_Below.f
  by_cases r : 0 ≤ a ∧ a < l0.length
  · rw [if_pos r, sv]
    cases hv : validB l0 l1 l2 l3 l4
    · refine ⟨([], 1), rfl, by simp, bad fun k hk => ?_⟩
      unfold r08_Below.f
      rw [ev _ (by omega), hv]
      exact jt k
    · have F := valid_fine hv
      have hn3 := F.n3
      obtain ⟨K2, hK2⟩ := below_l0 F a l3.length 0 [] (by omega) (by simp)
      rw [List.nil_append, ← List.range_eq_range'] at hK2
      refine ⟨(belowL l0 l3 a, 0), rfl, ?_, ⟨K + K2 + 1, fun k hk => ?_⟩⟩
      · have : (belowL l0 l3 a).length ≤ l3.length := by
          unfold belowL
          rw [List.length_map]
          exact Nat.le_trans (List.length_filter_le _ _) (by simp)
        show (belowL l0 l3 a).length < _; omega
      obtain ⟨k, rfl⟩ : ∃ k', k = k' + 1 := ⟨k - 1, by omega⟩
      show r08_Below.f (k + 1) l0 l1 l2 l3 l4 a = _
      unfold r08_Below.f
      rw [ev _ (by omega), hv, Option.bind_some, if_pos rfl, if_neg (by omega), decide_eq_false (by omega)]
      simp only [r08_Below.j0]
      rw [if_neg (by decide)]
      exact hK2 k (by omega)
  · rw [if_neg r]
    refine ⟨([], 1), rfl, by simp, bad fun k hk => ?_⟩
    unfold r08_Below.f
    rw [ev _ (by omega), Option.bind_some]
    cases hv : validB l0 l1 l2 l3 l4
    · exact jt k
    · rw [if_pos rfl]
      by_cases n : a < 0
      · rw [if_pos n]; exact jt k
      · rw [if_neg n, decide_eq_true (by omega)]; exact jt k
end
section
variable {l0 : List S48} {l1 : List S62} {l2 : List S84} {l3 : List S42} {l4 : List S87}
theorem uses_ok (a : ByteArray) (b n c d e f g : Int) (h1 : 1 ≤ n) (h2 : n ≤ 7) : r08_Uses.f a b n c d e f g 0 = some (bitOf n 0) ∧ r08_Uses.f a b n c d e f g 1 = some (bitOf n 1) ∧ r08_Uses.f a b n c d e f g 2 = some (bitOf n 2) := by
  unfold r08_Uses.f
  have : n = 1 ∨ n = 2 ∨ n = 3 ∨ n = 4 ∨ n = 5 ∨ n = 6 ∨ n = 7 := by omega
  rcases this with rfl | rfl | rfl | rfl | rfl | rfl | rfl <;> decide +kernel
def goodA (n : Int) : Bool := decide (0 ≤ n) && decide (n ≤ 80)
theorem curr_l0 (l : List Int) (hl : l.length < 1000000) : ∀ (d i : Nat), i + d = l.length → Evt (fun k => r08_Currents.l0 k l i l0 l1 l2 l3 l4) ((l.drop i).all goodA && ((l.length : Int) == (l3.length : Int)))
  | 0, i, hi => Evt.const fun k _ => by
    simp only [r08_Currents.l0]
    rw [if_neg (by omega), List.drop_of_length_le (by omega)]; rfl
  | d + 1, i, hi => by
    have hlt : i < l.length := by omega
    have e : rd l (i : Int) = l[i] := by simp [rd, List.getD_eq_getElem?_getD, hlt]
    rw [List.drop_eq_getElem_cons hlt, List.all_cons]
    by_cases n : l[i] < 0
    · have : goodA l[i] = false := by simp [goodA]; omega
      rw [this]
      refine Evt.const fun k _ => ?_
      simp only [r08_Currents.l0, e]
      rw [if_pos (by omega), if_pos (by omega), if_pos n]; rfl
    · by_cases m : l[i] > 80
      · have : goodA l[i] = false := by simp [goodA]; omega
        rw [this]
        refine Evt.const fun k _ => ?_
        simp only [r08_Currents.l0, e]
        rw [if_pos (by omega), if_pos (by omega), if_neg n, if_pos m]; rfl
      · have : goodA l[i] = true := by simp [goodA]; omega
        rw [this, Bool.true_and]
        refine (curr_l0 l hl d (i + 1) (by omega)).step fun k _ => ?_
        simp only [r08_Currents.l0, e]
        rw [if_pos (by omega), if_pos (by omega), if_neg n, if_neg m, hb_wrap64 _ (by omega) (by omega)]; rfl
structure OutI (l0 : List S48) (l3 : List S42) (amps : List Int) (c : Nat) (v : S55) (out : List S55) : Prop where
  len : out.length = l0.length
  get : ∀ q : Nat, q < l0.length → rd_T55 out q = if q < c then ⟨sumL l0 l3 amps q 0 l3.length, sumL l0 l3 amps q 1 l3.length, sumL l0 l3 amps q 2 l3.length⟩ else if q = c then v else z55
theorem OutI.set {amps : List Int} {c : Nat} {v : S55} {out : List S55} (h : OutI l0 l3 amps c v out) (hc : c < l0.length) (v' : S55) : OutI l0 l3 amps c v' (out.set c v') := by
  have hl := h.len
  refine ⟨by simp [hl], fun q hq => ?_⟩
  have g := h.get q hq
  by_cases e : c = q
  · subst e
    rw [if_neg (Nat.lt_irrefl _), if_pos rfl]
    simp [rd_T55, List.getD_eq_getElem?_getD, show c < out.length by omega]
  · have : rd_T55 (out.set c v') (q : Int) = rd_T55 out (q : Int) := by simp [rd_T55, List.getD_eq_getElem?_getD, List.getElem?_set_ne e]
    rw [this, g]
    split
    · rfl
    · rw [if_neg (Ne.symm e), if_neg (Ne.symm e)]
theorem OutI.next {amps : List Int} {c : Nat} {out : List S55} (h : OutI l0 l3 amps c ⟨sumL l0 l3 amps c 0 l3.length, sumL l0 l3 amps c 1 l3.length, sumL l0 l3 amps c 2 l3.length⟩ out) : OutI l0 l3 amps (c + 1) z55 out := by
  refine ⟨h.len, fun q hq => ?_⟩
  rw [h.get q hq]
  by_cases a : q < c
  · rw [if_pos a, if_pos (by omega)]
  · rw [if_neg a]
    by_cases b : q = c
    · subst b; rw [if_pos rfl, if_pos (by omega)]
    · rw [if_neg b, if_neg (by omega)]; split <;> rfl
theorem ml_l1 (F : FineS l0 l1 l2 l3 l4) {amps : List Int} (ha : AmpsF l3.length amps) (c : Nat) (hc : c < l0.length) (R : List S55 × Int)
    (hn : ∀ out, OutI l0 l3 amps (c + 1) z55 out → Evt (fun k => r08_Loads.l0 k amps out (c + 1 : Nat) l0 l1 l2 l3 l4) R) : ∀ (d i : Nat), i + d = l3.length → ∀ out, OutI l0 l3 amps c ⟨sumL l0 l3 amps c 0 i, sumL l0 l3 amps c 1 i, sumL l0 l3 amps c 2 i⟩ out →
    Evt (fun k => r08_Loads.l1 k amps out c i l0 l1 l2 l3 l4) R := by
  have hn0 := F.n0
  have hn3 := F.n3
  have hal := ha.len
  intro d
  induction d with
  | zero =>
    intro i hi out hO
    obtain rfl : i = l3.length := by omega
    refine (hn out hO.next).step fun k _ => ?_
    simp only [r08_Loads.l1]
    rw [if_neg (by omega), hb_wrap64 _ (by omega) (by omega)]; rfl
  | succ d ih =>
    intro i hi
    have hA := ha.get i (by omega)
    have ph := F.ph (a := (i : Int)) (by omega) (by omega)
    have us := fun a b c d e f g => uses_ok a b _ c d e f g ph.1 ph.2
    have s3 : ∀ out, OutI l0 l3 amps c ⟨sumL l0 l3 amps c 0 (i + 1), sumL l0 l3 amps c 1 (i + 1), sumL l0 l3 amps c 2 (i + 1)⟩ out → Evt (fun k => r08_Loads.l2 k amps out c i 3 l0 l1 l2 l3 l4) R := fun out hO => by
      refine (ih (i + 1) (by omega) out hO).step fun k _ => ?_
      simp only [r08_Loads.l2]
      rw [if_neg (by omega), hb_wrap64 _ (by omega) (by omega)]; rfl
    have s2 : ∀ out, OutI l0 l3 amps c ⟨sumL l0 l3 amps c 0 (i + 1), sumL l0 l3 amps c 1 (i + 1), sumL l0 l3 amps c 2 i⟩ out → Evt (fun k => r08_Loads.l2 k amps out c i 2 l0 l1 l2 l3 l4) R := fun out hO => by
      have hl := hO.len
      have g := hO.get c hc
      rw [if_neg (Nat.lt_irrefl _), if_pos rfl] at g
      have bd := sum_bd (l0 := l0) (l3 := l3) ha.get c 2 i (by omega)
      have st : sumL l0 l3 amps c 2 (i + 1) = sumL l0 l3 amps c 2 i + (if (c : Int) ∈ wayL l0 l3 i ∧ bitOf (rd_T42 l3 (i : Int)).f2 2 = true then rd amps i else 0) := rfl
      by_cases w : (c : Int) ∈ wayL l0 l3 i ∧ bitOf (rd_T42 l3 (i : Int)).f2 2 = true
      · rw [if_pos w] at st
        refine (s3 _ (hO.set hc ⟨sumL l0 l3 amps c 0 (i + 1), sumL l0 l3 amps c 1 (i + 1), sumL l0 l3 amps c 2 (i + 1)⟩)).step fun k hk => ?_
        simp only [r08_Loads.l2, (us _ _ _ _ _ _ _).2.2, on_ok F (c : Int) (show i < l3.length by omega) k hk, Option.bind_some, w.2, decide_eq_true w.1, if_true, hl, g]
        rw [if_pos (by omega), if_pos (by omega), if_pos (by omega), if_pos (by omega), if_pos (by omega), if_neg (by omega), if_neg (by omega), if_pos (by omega), hb_wrap64 (_ + rd amps i) (by omega) (by omega), hb_wrap64 (2 + 1) (by omega) (by omega), ← st, Int.toNat_natCast]; rfl
      · rw [if_neg w, Int.add_zero] at st
        refine (s3 out (by rw [st]; exact hO)).step fun k hk => ?_
        simp only [r08_Loads.l2, (us _ _ _ _ _ _ _).2.2, on_ok F (c : Int) (show i < l3.length by omega) k hk, Option.bind_some]
        rw [if_pos (by omega), if_pos (by omega), if_pos (by omega), hb_wrap64 (2 + 1) (by omega) (by omega)]
        by_cases b : bitOf (rd_T42 l3 (i : Int)).f2 2 = true
        · rw [if_pos b, if_neg (fun h => w ⟨of_decide_eq_true h, b⟩)]; rfl
        · rw [if_neg b]; rfl
    have s1 : ∀ out, OutI l0 l3 amps c ⟨sumL l0 l3 amps c 0 (i + 1), sumL l0 l3 amps c 1 i, sumL l0 l3 amps c 2 i⟩ out → Evt (fun k => r08_Loads.l2 k amps out c i 1 l0 l1 l2 l3 l4) R := fun out hO => by
      have hl := hO.len
      have g := hO.get c hc
      rw [if_neg (Nat.lt_irrefl _), if_pos rfl] at g
      have bd := sum_bd (l0 := l0) (l3 := l3) ha.get c 1 i (by omega)
      have st : sumL l0 l3 amps c 1 (i + 1) = sumL l0 l3 amps c 1 i + (if (c : Int) ∈ wayL l0 l3 i ∧ bitOf (rd_T42 l3 (i : Int)).f2 1 = true then rd amps i else 0) := rfl
      by_cases w : (c : Int) ∈ wayL l0 l3 i ∧ bitOf (rd_T42 l3 (i : Int)).f2 1 = true
      · rw [if_pos w] at st
        refine (s2 _ (hO.set hc ⟨sumL l0 l3 amps c 0 (i + 1), sumL l0 l3 amps c 1 (i + 1), sumL l0 l3 amps c 2 i⟩)).step fun k hk => ?_
        simp only [r08_Loads.l2, (us _ _ _ _ _ _ _).2.1, on_ok F (c : Int) (show i < l3.length by omega) k hk, Option.bind_some, w.2, decide_eq_true w.1, if_true, hl, g]
        rw [if_pos (by omega), if_pos (by omega), if_pos (by omega), if_pos (by omega), if_pos (by omega), if_neg (by omega), if_pos (by omega), hb_wrap64 (_ + rd amps i) (by omega) (by omega), hb_wrap64 (1 + 1) (by omega) (by omega), ← st, Int.toNat_natCast]; rfl
      · rw [if_neg w, Int.add_zero] at st
        refine (s2 out (by rw [st]; exact hO)).step fun k hk => ?_
        simp only [r08_Loads.l2, (us _ _ _ _ _ _ _).2.1, on_ok F (c : Int) (show i < l3.length by omega) k hk, Option.bind_some]
        rw [if_pos (by omega), if_pos (by omega), if_pos (by omega), hb_wrap64 (1 + 1) (by omega) (by omega)]
        by_cases b : bitOf (rd_T42 l3 (i : Int)).f2 1 = true
        · rw [if_pos b, if_neg (fun h => w ⟨of_decide_eq_true h, b⟩)]; rfl
        · rw [if_neg b]; rfl
    have s0 : ∀ out, OutI l0 l3 amps c ⟨sumL l0 l3 amps c 0 i, sumL l0 l3 amps c 1 i, sumL l0 l3 amps c 2 i⟩ out → Evt (fun k => r08_Loads.l2 k amps out c i 0 l0 l1 l2 l3 l4) R := fun out hO => by
      have hl := hO.len
      have g := hO.get c hc
      rw [if_neg (Nat.lt_irrefl _), if_pos rfl] at g
      have bd := sum_bd (l0 := l0) (l3 := l3) ha.get c 0 i (by omega)
      have st : sumL l0 l3 amps c 0 (i + 1) = sumL l0 l3 amps c 0 i + (if (c : Int) ∈ wayL l0 l3 i ∧ bitOf (rd_T42 l3 (i : Int)).f2 0 = true then rd amps i else 0) := rfl
      by_cases w : (c : Int) ∈ wayL l0 l3 i ∧ bitOf (rd_T42 l3 (i : Int)).f2 0 = true
      · rw [if_pos w] at st
        refine (s1 _ (hO.set hc ⟨sumL l0 l3 amps c 0 (i + 1), sumL l0 l3 amps c 1 i, sumL l0 l3 amps c 2 i⟩)).step fun k hk => ?_
        simp only [r08_Loads.l2, (us _ _ _ _ _ _ _).1, on_ok F (c : Int) (show i < l3.length by omega) k hk, Option.bind_some, w.2, decide_eq_true w.1, if_true, hl, g]
        rw [if_pos (by omega), if_pos (by omega), if_pos (by omega), if_pos (by omega), if_pos (by omega), if_pos (by omega), hb_wrap64 (_ + rd amps i) (by omega) (by omega), hb_wrap64 (0 + 1) (by omega) (by omega), ← st, Int.toNat_natCast]; rfl
      · rw [if_neg w, Int.add_zero] at st
        refine (s1 out (by rw [st]; exact hO)).step fun k hk => ?_
        simp only [r08_Loads.l2, (us _ _ _ _ _ _ _).1, on_ok F (c : Int) (show i < l3.length by omega) k hk, Option.bind_some]
        rw [if_pos (by omega), if_pos (by omega), if_pos (by omega), hb_wrap64 (0 + 1) (by omega) (by omega)]
        by_cases b : bitOf (rd_T42 l3 (i : Int)).f2 0 = true
        · rw [if_pos b, if_neg (fun h => w ⟨of_decide_eq_true h, b⟩)]; rfl
        · rw [if_neg b]; rfl
    intro out hO
    refine (s0 out hO).step fun k _ => ?_
    simp only [r08_Loads.l1]
    rw [if_pos (by omega)]
theorem ml_l0 (F : FineS l0 l1 l2 l3 l4) {amps : List Int} (ha : AmpsF l3.length amps) : ∀ (d c : Nat), c + d = l0.length → ∀ out, OutI l0 l3 amps c z55 out →
    Evt (fun k => r08_Loads.l0 k amps out c l0 l1 l2 l3 l4) (loadsV l0 l3 amps, 0) := by
  have hn0 := F.n0
  intro d
  induction d with
  | zero =>
    intro c hc out hO
    have e : out = loadsV l0 l3 amps := by
      refine List.ext_getElem (by rw [hO.len, loadsV_len]) fun q h1 h2 => ?_
      have hq : q < l0.length := by rw [← hO.len]; exact h1
      have g := hO.get q hq
      rw [if_pos (by omega)] at g
      have g2 := loads_at F ha.get q hq
      simp only [rd_T55, List.getD_eq_getElem?_getD, Int.toNat_natCast, h1, h2, List.getElem?_eq_getElem, Option.getD_some] at g g2
      rw [g, g2]
    rw [← e]
    refine Evt.const fun k _ => ?_
    simp only [r08_Loads.l0]
    rw [if_neg (by omega)]
  | succ d ih =>
    intro c hc out hO
    refine (ml_l1 F ha c (by omega) _ (fun o ho => ih (c + 1) (by omega) o ho) l3.length 0 (by omega) out hO).step fun k _ => ?_
    simp only [r08_Loads.l0]
    rw [if_pos (by omega)]; rfl
theorem mloads (hs : ∀ x ∈ allNames l0 l1 l2 l3 l4, x.size ≤ maxLen) (sv : site_Valid.f l0 l1 l2 l3 l4 = some (validB l0 l1 l2 l3 l4)) (amps : List Int) (hal : amps.length ≤ 40) : ∃ P : List S55 × Int, tree_Loads.f l0 l1 l2 l3 l4 amps = some P ∧ P.1.length < 1000000 ∧ Evt (fun k => r08_Loads.f k l0 l1 l2 l3 l4 amps) P := by
  obtain ⟨K, hK⟩ := valid_ok l0 l1 l2 l3 l4 hs
  obtain ⟨K1, hK1⟩ := curr_l0 (l0 := l0) (l1 := l1) (l2 := l2) (l3 := l3) (l4 := l4) amps (by omega) amps.length 0 (by omega)
  rw [List.drop_zero] at hK1
  have jt : ∀ k, r08_Loads.j0 (k + 1) amps true l0 l1 l2 l3 l4 = some ([], 1) := fun k => by simp [r08_Loads.j0]
  have ev : ∀ k, K ≤ k → r04_Valid.f k l0 l1 l2 l3 l4 = some (validB l0 l1 l2 l3 l4) := hK
  have ec : ∀ k, K1 ≤ k → r08_Currents.f k l0 l1 l2 l3 l4 amps = some (amps.all goodA && ((amps.length : Int) == (l3.length : Int))) := fun k hk => by
    unfold r08_Currents.f
    exact hK1 k hk
  have bad : (validB l0 l1 l2 l3 l4 = true → (amps.all goodA && ((amps.length : Int) == (l3.length : Int))) = false) → Evt (fun k => r08_Loads.f k l0 l1 l2 l3 l4 amps) ([], 1) := fun h => ⟨K + K1 + 1, fun k hk => by
    obtain ⟨k, rfl⟩ : ∃ k', k = k' + 1 := ⟨k - 1, by omega⟩
    show r08_Loads.f (k + 1) l0 l1 l2 l3 l4 amps = _
    unfold r08_Loads.f
    rw [ev _ (by omega), Option.bind_some]
    cases hv : validB l0 l1 l2 l3 l4
    · exact jt k
    · rw [if_pos rfl, ec _ (by omega), h hv]
      exact jt k⟩
  have hgb : amps.any badA = !(amps.all goodA) := by
    rw [List.any_eq_not_all_not]
    congr 2
    funext x
    simp only [badA, goodA, Bool.not_or]
    rw [Bool.eq_iff_iff]; first | (simp; done) | (simp; omega)
  unfold tree_Loads.f
  by_cases hl : amps.length = l3.length
  · rw [if_neg (fun h => h hl), if_neg (by omega), hgb]
    cases hg : amps.all goodA
    · exact ⟨([], 1), rfl, by simp, bad fun _ => by rw [hg]; rfl⟩
    · rw [if_neg (by decide), sv]
      cases hv : validB l0 l1 l2 l3 l4
      · exact ⟨([], 1), rfl, by simp, bad fun h => by rw [hv] at h; cases h⟩
      · have F := valid_fine hv
        have hn0 := F.n0
        have hA : AmpsF l3.length amps := ⟨hl, fun j hj => by
          have hx := List.all_eq_true.1 hg amps[j] (List.getElem_mem (by omega))
          simp only [goodA, Bool.and_eq_true, decide_eq_true_eq] at hx
          simpa [rd, List.getD_eq_getElem?_getD, show j < amps.length by omega] using hx⟩
        obtain ⟨K2, hK2⟩ := ml_l0 F hA l0.length 0 (by omega) (List.replicate l0.length z55) ⟨by simp, fun q hq => by
          rw [if_neg (by omega)]
          have : rd_T55 (List.replicate l0.length z55) (q : Int) = z55 := by simp [rd_T55, List.getD_eq_getElem?_getD, hq]
          rw [this]; split <;> rfl⟩
        refine ⟨(loadsV l0 l3 amps, 0), rfl, by show (loadsV l0 l3 amps).length < _; rw [loadsV_len]; omega, ⟨K + K1 + K2 + 1, fun k hk => ?_⟩⟩
        obtain ⟨k, rfl⟩ : ∃ k', k = k' + 1 := ⟨k - 1, by omega⟩
        show r08_Loads.f (k + 1) l0 l1 l2 l3 l4 amps = _
        unfold r08_Loads.f
        have e1 : ((amps.length : Int) == (l3.length : Int)) = true := by rw [hl]; simp
        rw [ev _ (by omega), hv, Option.bind_some, if_pos rfl, ec _ (by omega), hg, e1, Option.bind_some]
        simp only [r08_Loads.j0]
        rw [if_neg (by decide), if_pos (by omega), if_pos (by rw [Int.toNat_natCast]; omega), Int.toNat_natCast]
        exact hK2 k (by omega)
  · rw [if_pos hl]
    refine ⟨([], 1), rfl, by simp, bad fun _ => ?_⟩
    have : ((amps.length : Int) == (l3.length : Int)) = false := by rw [beq_eq_false_iff_ne]; omega
    rw [this]; simp
end
theorem TreeMatchesReference : w08_TreeMatchesReference.Pure := by
  intro s l a b w wl wa wb
  obtain ⟨K1, hK1⟩ := head_ok
  have sv := sv_ok w
  have hs := hs_of w
  unfold w08_TreeMatchesReference.f
  by_cases hf : (decide (s.f0.length ≤ 40) && decide (s.f1.length ≤ 40) && decide (s.f2.length ≤ 40) && decide (s.f3.length ≤ 40) && decide (s.f4.length ≤ 40)) = true
  · by_cases h40 : (l.length : Int) > 40
    · refine ⟨K1 + 1, ?_⟩
      rw [show w08_head.f (K1 + 1) = some true from hK1 _ (by omega), few_eq, hf, decide_eq_true h40]
      simp [w08_TreeMatchesReference.j0]
    · obtain ⟨P, p1, p2, ⟨A1, q1⟩⟩ := mpath hs sv a
      obtain ⟨Q, r1, r2, ⟨A2, q2⟩⟩ := mloads hs sv l (by omega)
      obtain ⟨R, t1, t2, ⟨A3, q3⟩⟩ := mbelow hs sv b
      obtain ⟨B1, u1⟩ := ints_self P.1 p2
      obtain ⟨B2, u2⟩ := same_self Q.1 r2
      obtain ⟨B3, u3⟩ := ints_self R.1 t2
      refine ⟨K1 + A1 + A2 + A3 + B1 + B2 + B3 + 1, ?_⟩
      rw [show w08_head.f (K1 + A1 + A2 + A3 + B1 + B2 + B3 + 1) = some true from hK1 _ (by omega), few_eq, hf, decide_eq_false h40]
      simp only [Option.bind_some, if_true, w08_TreeMatchesReference.j0]
      rw [if_neg (by decide), p1, r1, t1]
      simp only [Option.bind_some]
      rw [show r08_Path.f (K1 + A1 + A2 + A3 + B1 + B2 + B3) _ _ _ _ _ _ = _ from q1 _ (by omega), show r08_Loads.f (K1 + A1 + A2 + A3 + B1 + B2 + B3) _ _ _ _ _ _ = _ from q2 _ (by omega), show r08_Below.f (K1 + A1 + A2 + A3 + B1 + B2 + B3) _ _ _ _ _ _ = _ from q3 _ (by omega)]
      simp only [Option.bind_some]
      rw [show r04_Ints.f (K1 + A1 + A2 + A3 + B1 + B2 + B3) P.1 P.1 = _ from u1 _ (by omega), show r08_Same.f (K1 + A1 + A2 + A3 + B1 + B2 + B3) Q.1 Q.1 = _ from u2 _ (by omega), show r04_Ints.f (K1 + A1 + A2 + A3 + B1 + B2 + B3) R.1 R.1 = _ from u3 _ (by omega)]
      simp
  · refine ⟨K1 + 1, ?_⟩
    rw [show w08_head.f (K1 + 1) = some true from hK1 _ (by omega), few_eq, Bool.eq_false_iff.2 hf]
    simp [w08_TreeMatchesReference.j0]

end Go.Proofs.Ytpdmnineampimaa.Pure
