import Derived.Test.YtpdmnineampimaaYQx24
import Derived.Test.YtpdmnineampimaaYQx41
set_option linter.unusedVariables false
set_option linter.unusedSimpArgs false
namespace Go.Proofs.Ytpdmnineampimaa.Basevalid
open Go.RowKit Go.Proofs.Ytpdmnineampimaa.Q Go.Proofs.YtpdmnineampimaaW.PrintWords Go.Proofs.YtpdmnineampimaaW.PrintLast Go.Proofs.YtpdmnineampimaaW.PrintMore
def inL (l : List ByteArray) (x : ByteArray) : Bool := l.any fun y => decide (x.toList = y.toList)
theorem in_eq (l : List ByteArray) (x : ByteArray) (hl : l.length < 1000000) : ∀ (d k i : Nat), i + d = l.length → d < k →
    ∃ t : Int, r02_In.l0 k l x i = some t ∧ decide (t ≥ 0) = inL (l.drop i) x := by
  intro d
  induction d with
  | zero =>
    intro k i hi hk
    obtain ⟨k, rfl⟩ : ∃ k', k = k' + 1 := ⟨k - 1, by omega⟩
    refine ⟨-1, ?_, ?_⟩
    · simp only [r02_In.l0]; rw [if_neg (by omega)]
    · rw [List.drop_of_length_le (by omega)]; rfl
  | succ d ih =>
    intro k i hi hk
    obtain ⟨k, rfl⟩ : ∃ k', k = k' + 1 := ⟨k - 1, by omega⟩
    have hlt : i < l.length := by omega
    have e : rdOf ByteArray.empty l (i : Int) = l[i] := by simp [rdOf, List.getD_eq_getElem?_getD, hlt]
    simp only [r02_In.l0]
    rw [if_pos (by omega), if_pos (by omega), e, List.drop_eq_getElem_cons hlt]
    by_cases c : l[i].toList = x.toList
    · rw [if_pos c]
      refine ⟨_, rfl, ?_⟩
      simp only [inL, List.any_cons]
      rw [decide_eq_true c.symm, decide_eq_true (show (i : Int) ≥ 0 by omega)]; rfl
    · rw [if_neg c, hb_wrap64 _ (by omega) (by omega)]
      obtain ⟨t, h1, h2⟩ := ih k (i + 1) (by omega) (by omega)
      refine ⟨t, by rw [← h1]; rfl, ?_⟩
      rw [h2]
      simp only [inL, List.any_cons]
      rw [decide_eq_false (fun h => c h.symm), Bool.false_or]
theorem In_ok (l : List ByteArray) (x : ByteArray) (hl : l.length < 1000000) (k : Nat) (hk : l.length < k) : ∃ t : Int, r02_In.f k l x = some t ∧ decide (t ≥ 0) = inL l x :=
  in_eq l x hl l.length k 0 (by omega) hk
def kindsL : List ByteArray := (r02_Kinds.f).getD []
def attrsL : List ByteArray := (r02_Attrs.f).getD []
def artsL : List ByteArray := (r02_Articles.f).getD []
def wordsL : List ByteArray := (r02_Words.f).getD []
theorem kind_ok (x : ByteArray) : ∃ n, parser_kindOf.f x = some n ∧ decide (n > 0) = inL kindsL x := by
  have h1 : parser_kindOf.f x = some ((parser_kindOf.f x).getD 0) := by
    unfold parser_kindOf.f
    repeat (split; rfl)
    rfl
  refine ⟨_, h1, ?_⟩
  unfold parser_kindOf.f inL kindsL r02_Kinds.f
  simp only [Option.getD_some, List.any_cons, List.any_nil, ByteArray.toList_eq]
  generalize x.data.toList = s
  repeat (split; (rename_i h_; rw [h_]; rfl))
  simp only [*, decide_false, Bool.or_false, Bool.or_self, Option.getD_some]
  rfl
theorem if_or (p : Prop) [Decidable p] (b : Bool) : (if p then some true else some b) = some (decide p || b) := by split <;> simp [*]
theorem attr_ok (x : ByteArray) : parser_isAttr.f x = some (inL attrsL x) := by
  unfold parser_isAttr.f inL attrsL r02_Attrs.f
  simp only [Option.getD_some, List.any_cons, List.any_nil, ByteArray.toList_eq]
  generalize x.data.toList = s
  simp only [if_or]
theorem art_ok (x : ByteArray) : parser_isArticle.f x = some (inL artsL x) := by
  unfold parser_isArticle.f inL artsL r02_Articles.f
  simp only [Option.getD_some, List.any_cons, List.any_nil, ByteArray.toList_eq]
  generalize x.data.toList = s
  simp only [if_or]
theorem word_ok (x : ByteArray) : parser_isWord.f x = some (inL wordsL x) := by
  unfold parser_isWord.f inL wordsL r02_Words.f
  simp only [Option.getD_some, List.any_cons, List.any_nil, ByteArray.toList_eq]
  generalize x.data.toList = s
  simp only [if_or]
def nameB (x : ByteArray) : Bool := decide (1 ≤ x.size) && decide (x.size ≤ 12) && (List.range x.size).all (fun i => nmByte x i) && !(inL kindsL x) && !(inL attrsL x) && !(inL artsL x) && !(inL wordsL x)
theorem named_eq (x : ByteArray) : site_named.f x = some (nameB x) := by
  unfold site_named.f parser_isName.f nameB
  obtain ⟨n, h1, h2⟩ := kind_ok x
  rw [h1, attr_ok, art_ok, word_ok]
  simp only [Option.bind_some]
  by_cases c0 : x.size = 0
  · rw [if_pos c0, decide_eq_false (by omega : ¬ 1 ≤ x.size)]; rfl
  rw [if_neg c0, decide_eq_true (by omega : 1 ≤ x.size)]
  by_cases c1 : 12 < x.size
  · rw [if_pos c1, decide_eq_false (by omega : ¬ x.size ≤ 12)]; rfl
  rw [if_neg c1, decide_eq_true (by omega : x.size ≤ 12)]
  by_cases c2 : n > 0
  · rw [if_pos c2, ← h2, decide_eq_true c2]; simp
  rw [if_neg c2, ← h2, decide_eq_false c2]
  cases inL attrsL x <;> cases inL artsL x <;> cases inL wordsL x <;> simp
theorem nm_step (b i : Int) (nx : Option Bool) :
    (if b < 97 then (if i = 0 then (some false) else (if b < 48 then (if b = 95 then nx else (some false)) else (if b > 57 then (if b = 95 then nx else (some false)) else nx))) else (if b > 122 then (if i = 0 then (some false) else (if b < 48 then (if b = 95 then nx else (some false)) else (if b > 57 then (if b = 95 then nx else (some false)) else nx))) else nx)) =
    if ((decide (97 ≤ b) && decide (b ≤ 122)) || (!(decide (i = 0)) && (decide (b = 95) || (decide (48 ≤ b) && decide (b ≤ 57))))) = true then nx else some false := by
  simp only [Bool.or_eq_true, Bool.and_eq_true, decide_eq_true_eq, Bool.not_eq_true', decide_eq_false_iff_not]
  repeat' split
  all_goals first | rfl | omega
def tailB (x : ByteArray) : Bool := decide (1 ≤ x.size) && decide (x.size ≤ 12) && !(inL kindsL x) && !(inL attrsL x) && !(inL artsL x) && !(inL wordsL x)
theorem nm_tail (x : ByteArray) (k : Nat) (hk : 20 < k) : ((r02_Kinds.f).bind fun t288 => ((r02_In.f k t288 x).bind fun t291 => (if t291 ≥ 0 then (if (x.size : Int) ≥ 1 then (if (x.size : Int) ≤ 12 then (some (!true)) else (some false)) else (some false)) else ((r02_Attrs.f).bind fun t292 => ((r02_In.f k t292 x).bind fun t295 => (if t295 ≥ 0 then (if (x.size : Int) ≥ 1 then (if (x.size : Int) ≤ 12 then (some (!true)) else (some false)) else (some false)) else ((r02_Articles.f).bind fun t296 => ((r02_In.f k t296 x).bind fun t299 => (if t299 ≥ 0 then (if (x.size : Int) ≥ 1 then (if (x.size : Int) ≤ 12 then (some (!true)) else (some false)) else (some false)) else ((r02_Words.f).bind fun t300 => ((r02_In.f k t300 x).bind fun t303 => (if (x.size : Int) ≥ 1 then (if (x.size : Int) ≤ 12 then (some (!(decide (t303 ≥ 0)))) else (some false)) else (some false))))))))))))) = some (tailB x) := by
  obtain ⟨t1, a1, b1⟩ := In_ok kindsL x (by decide) k (by have : kindsL.length = 7 := rfl; omega)
  obtain ⟨t2, a2, b2⟩ := In_ok attrsL x (by decide) k (by have : attrsL.length = 13 := rfl; omega)
  obtain ⟨t3, a3, b3⟩ := In_ok artsL x (by decide) k (by have : artsL.length = 6 := rfl; omega)
  obtain ⟨t4, a4, b4⟩ := In_ok wordsL x (by decide) k (by have : wordsL.length = 7 := rfl; omega)
  have e1 : r02_Kinds.f = some kindsL := rfl
  have e2 : r02_Attrs.f = some attrsL := rfl
  have e3 : r02_Articles.f = some artsL := rfl
  have e4 : r02_Words.f = some wordsL := rfl
  simp only [e1, e2, e3, e4, Option.bind_some, a1, a2, a3, a4, tailB, ← b1, ← b2, ← b3, ← b4]
  by_cases h1 : (x.size : Int) ≥ 1
  · rw [decide_eq_true (show 1 ≤ x.size by omega)]
    simp only [if_pos h1]
    by_cases h2 : (x.size : Int) ≤ 12
    · rw [decide_eq_true (show x.size ≤ 12 by omega)]
      simp only [if_pos h2]
      by_cases g1 : t1 ≥ 0
      · rw [if_pos g1, decide_eq_true g1]; simp
      rw [if_neg g1, decide_eq_false g1]
      by_cases g2 : t2 ≥ 0
      · rw [if_pos g2, decide_eq_true g2]; simp
      rw [if_neg g2, decide_eq_false g2]
      by_cases g3 : t3 ≥ 0
      · rw [if_pos g3, decide_eq_true g3]; simp
      rw [if_neg g3, decide_eq_false g3]
      simp
    · rw [decide_eq_false (show ¬ x.size ≤ 12 by omega)]
      simp only [if_neg h2, ite_self]
      simp
  · rw [decide_eq_false (show ¬ 1 ≤ x.size by omega)]
    simp only [if_neg h1, ite_self]
    simp
theorem name_l0 (x : ByteArray) (hx : x.size ≤ 9223372036854775807) : ∀ (d k i : Nat), i + d = x.size → d + 21 < k →
    r02_Name.l0 k x i = some ((List.range' i d).all (fun (j : Nat) => nmByte x j) && tailB x) := by
  intro d
  induction d with
  | zero =>
    intro k i hi hk
    obtain ⟨k, rfl⟩ : ∃ k', k = k' + 1 := ⟨k - 1, by omega⟩
    simp only [r02_Name.l0]
    rw [if_neg (by omega), nm_tail x k (by omega)]
    rfl
  | succ d ih =>
    intro k i hi hk
    obtain ⟨k, rfl⟩ : ∃ k', k = k' + 1 := ⟨k - 1, by omega⟩
    simp only [r02_Name.l0]
    rw [if_pos (by omega), if_pos (by omega), hb_wrap64 _ (by omega) (by omega), nm_step, List.range'_succ, List.all_cons]
    have e := ih k (i + 1) (by omega) (by omega)
    rw [show ((i : Int) + 1) = ((i + 1 : Nat) : Int) from rfl, e]
    show (if nmByte x i = true then _ else _) = _
    cases nmByte x i <;> simp
theorem Name_ok (x : ByteArray) (hx : x.size ≤ 9223372036854775807) (k : Nat) (hk : x.size + 21 < k) : r02_Name.f k x = some (nameB x) := by
  have h := name_l0 x hx x.size k 0 (by omega) hk
  unfold r02_Name.f
  rw [show (0 : Int) = ((0 : Nat) : Int) from rfl, h, ← List.range_eq_range']
  unfold nameB tailB
  cases (List.range x.size).all (fun i => nmByte x i) <;> simp
theorem has_l0 (l : List ByteArray) (x : ByteArray) (hl : l.length < 1000000) : ∀ (d k i : Nat), i + d = l.length → d < k →
    r04_has.l0 k l x i = some (inL (l.drop i) x) := by
  intro d
  induction d with
  | zero =>
    intro k i hi hk
    obtain ⟨k, rfl⟩ : ∃ k', k = k' + 1 := ⟨k - 1, by omega⟩
    simp only [r04_has.l0]; rw [if_neg (by omega), List.drop_of_length_le (by omega)]; rfl
  | succ d ih =>
    intro k i hi hk
    obtain ⟨k, rfl⟩ : ∃ k', k = k' + 1 := ⟨k - 1, by omega⟩
    have hlt : i < l.length := by omega
    have e : rdOf ByteArray.empty l (i : Int) = l[i] := by simp [rdOf, List.getD_eq_getElem?_getD, hlt]
    simp only [r04_has.l0]
    rw [if_pos (by omega), if_pos (by omega), e, List.drop_eq_getElem_cons hlt]
    simp only [inL, List.any_cons]
    by_cases c : l[i].toList = x.toList
    · rw [if_pos c, decide_eq_true c.symm]; rfl
    · rw [if_neg c, hb_wrap64 _ (by omega) (by omega), decide_eq_false (fun h => c h.symm), Bool.false_or]
      exact ih k (i + 1) (by omega) (by omega)
theorem inL_seen (l : List ByteArray) (x : ByteArray) : inL l x = decide (x.data.toList ∈ (l.map (fun y => y.data.toList)).reverse) := by
  unfold inL
  rw [Bool.eq_iff_iff]
  simp only [List.any_eq_true, decide_eq_true_eq, List.mem_reverse, List.mem_map, ByteArray.toList_eq]
  exact ⟨fun ⟨y, h1, h2⟩ => ⟨y, h1, h2.symm⟩, fun ⟨y, h1, h2⟩ => ⟨y, h1, h2.symm⟩⟩
theorem nmFold_false : ∀ (l : List ByteArray) (s : List (List UInt8)), (l.foldl nmStep (false, s)).1 = false
  | [], s => rfl
  | x :: l, s => by rw [List.foldl_cons]; exact nmFold_false l s
theorem names_l5 (l : List ByteArray) (hl : l.length < 1000000) (M : Nat) (hM : ∀ x ∈ l, x.size ≤ M) (hM2 : M ≤ 9223372036854775807) : ∀ (d k i : Nat), i + d = l.length → d + M + 1000000 < k →
    r04_names.l5 k l i = some ((l.drop i).foldl nmStep (true, ((l.take i).map (fun y => y.data.toList)).reverse)).1 := by
  intro d
  induction d with
  | zero =>
    intro k i hi hk
    obtain ⟨k, rfl⟩ : ∃ k', k = k' + 1 := ⟨k - 1, by omega⟩
    simp only [r04_names.l5]; rw [if_neg (by omega), List.drop_of_length_le (by omega)]; rfl
  | succ d ih =>
    intro k i hi hk
    obtain ⟨k, rfl⟩ : ∃ k', k = k' + 1 := ⟨k - 1, by omega⟩
    have hlt : i < l.length := by omega
    have e : rdOf ByteArray.empty l (i : Int) = l[i] := by simp [rdOf, List.getD_eq_getElem?_getD, hlt]
    have hm := hM l[i] (List.getElem_mem hlt)
    simp only [r04_names.l5]
    rw [if_pos (by omega), if_pos (by omega), e, Name_ok l[i] (by omega) k (by omega), List.drop_eq_getElem_cons hlt, List.foldl_cons]
    have hh := has_l0 (l.take i) l[i] (by simp; omega) (l.take i).length k 0 (by omega) (by simp; omega)
    rw [List.drop_zero, inL_seen] at hh
    have hs : nmStep (true, ((l.take i).map (fun y => y.data.toList)).reverse) l[i] = (nameB l[i] && !decide (l[i].data.toList ∈ ((l.take i).map (fun y => y.data.toList)).reverse), ((l.take (i + 1)).map (fun y => y.data.toList)).reverse) := by
      unfold nmStep
      rw [named_eq, List.take_succ_eq_append_getElem hlt, List.map_append, List.reverse_append]
      rfl
    rw [hs]
    simp only [Option.bind_some]
    cases hn : nameB l[i]
    · rw [if_neg (by decide), Bool.false_and, nmFold_false]
    · rw [if_pos rfl, if_pos (by omega), Int.toNat_natCast]
      unfold r04_has.f
      rw [show (0 : Int) = ((0 : Nat) : Int) from rfl, hh]
      simp only [Option.bind_some]
      cases hq : decide (l[i].data.toList ∈ ((l.take i).map (fun y => y.data.toList)).reverse)
      · rw [if_neg (by decide), hb_wrap64 _ (by omega) (by omega)]
        exact ih k (i + 1) (by omega) (by omega)
      · rw [if_pos rfl]
        simp only [Bool.not_true, Bool.and_false]
        rw [nmFold_false]
def Evt {β : Type} (f : Nat → Option β) (v : β) : Prop := ∃ K, ∀ k, K ≤ k → f k = some v
theorem Evt.step {β : Type} {f g : Nat → Option β} {v : β} (h : Evt g v) (e : ∀ k, 40 ≤ k → f (k + 1) = g k) : Evt f v := by
  obtain ⟨K, hK⟩ := h
  refine ⟨K + 41, fun k hk => ?_⟩
  obtain ⟨k, rfl⟩ : ∃ k', k = k' + 1 := ⟨k - 1, by omega⟩
  rw [e k (by omega)]; exact hK k (by omega)
theorem Evt.const {β : Type} {f : Nat → Option β} {v : β} (e : ∀ k, 40 ≤ k → f (k + 1) = some v) : Evt f v := ⟨41, fun k hk => by
  obtain ⟨k, rfl⟩ : ∃ k', k = k' + 1 := ⟨k - 1, by omega⟩
  exact e k (by omega)⟩
theorem inside_ok (a b c : Int) : r04_inside.f a b c = some (ins a b c) := by
  unfold r04_inside.f ins
  by_cases h : a ≥ b
  · rw [if_pos h, decide_eq_true (show b ≤ a from h)]; rfl
  · rw [if_neg h, decide_eq_false (show ¬ b ≤ a from h)]; rfl
theorem names_l0 (l0 : List S48) (l1 : List S62) (l2 : List S84) (l3 : List S42) (l4 : List S87) (hL : l0.length ≤ 1000) : ∀ (d k i : Nat) (acc : List ByteArray), i + d = l0.length → acc.length + d < 1000000 →
    r04_names.l0 (d + 1 + k) acc i l0 l1 l2 l3 l4 = r04_names.l1 k (acc ++ (l0.drop i).map S48.f0) 0 l0 l1 l2 l3 l4
  | 0, k, i, acc, hi, ha => by
    rw [show 0 + 1 + k = k + 1 by omega]
    simp only [r04_names.l0]
    rw [if_neg (by omega), List.drop_of_length_le (by omega)]; simp
  | d + 1, k, i, acc, hi, ha => by
    have hlt : i < l0.length := by omega
    rw [show d + 1 + 1 + k = (d + 1 + k) + 1 by omega]
    simp only [r04_names.l0]
    rw [if_pos (by omega), if_pos (by omega), if_pos (by omega), hb_wrap64 _ (by omega) (by omega)]
    have h := names_l0 l0 l1 l2 l3 l4 hL d k (i + 1) (acc ++ [(rd_T48 l0 i).f0]) (by omega) (by simp; omega)
    have e : rd_T48 l0 (i : Int) = l0[i] := by simp [rd_T48, List.getD_eq_getElem?_getD, hlt]
    rw [e] at h ⊢
    rw [show ((i : Int) + 1) = ((i + 1 : Nat) : Int) from rfl, h, List.drop_eq_getElem_cons hlt, List.map_cons, List.append_assoc]; rfl
theorem names_l1 (l0 : List S48) (l1 : List S62) (l2 : List S84) (l3 : List S42) (l4 : List S87) (hL : l1.length ≤ 1000) : ∀ (d k i : Nat) (acc : List ByteArray), i + d = l1.length → acc.length + d < 1000000 →
    r04_names.l1 (d + 1 + k) acc i l0 l1 l2 l3 l4 = r04_names.l2 k (acc ++ (l1.drop i).map S62.f0) 0 l0 l1 l2 l3 l4
  | 0, k, i, acc, hi, ha => by
    rw [show 0 + 1 + k = k + 1 by omega]
    simp only [r04_names.l1]
    rw [if_neg (by omega), List.drop_of_length_le (by omega)]; simp
  | d + 1, k, i, acc, hi, ha => by
    have hlt : i < l1.length := by omega
    rw [show d + 1 + 1 + k = (d + 1 + k) + 1 by omega]
    simp only [r04_names.l1]
    rw [if_pos (by omega), if_pos (by omega), if_pos (by omega), hb_wrap64 _ (by omega) (by omega)]
    have h := names_l1 l0 l1 l2 l3 l4 hL d k (i + 1) (acc ++ [(rd_T62 l1 i).f0]) (by omega) (by simp; omega)
    have e : rd_T62 l1 (i : Int) = l1[i] := by simp [rd_T62, List.getD_eq_getElem?_getD, hlt]
    rw [e] at h ⊢
    rw [show ((i : Int) + 1) = ((i + 1 : Nat) : Int) from rfl, h, List.drop_eq_getElem_cons hlt, List.map_cons, List.append_assoc]; rfl
theorem names_l2 (l0 : List S48) (l1 : List S62) (l2 : List S84) (l3 : List S42) (l4 : List S87) (hL : l2.length ≤ 1000) : ∀ (d k i : Nat) (acc : List ByteArray), i + d = l2.length → acc.length + d < 1000000 →
    r04_names.l2 (d + 1 + k) acc i l0 l1 l2 l3 l4 = r04_names.l3 k (acc ++ (l2.drop i).map S84.f0) 0 l0 l1 l2 l3 l4
  | 0, k, i, acc, hi, ha => by
    rw [show 0 + 1 + k = k + 1 by omega]
    simp only [r04_names.l2]
    rw [if_neg (by omega), List.drop_of_length_le (by omega)]; simp
  | d + 1, k, i, acc, hi, ha => by
    have hlt : i < l2.length := by omega
    rw [show d + 1 + 1 + k = (d + 1 + k) + 1 by omega]
    simp only [r04_names.l2]
    rw [if_pos (by omega), if_pos (by omega), if_pos (by omega), hb_wrap64 _ (by omega) (by omega)]
    have h := names_l2 l0 l1 l2 l3 l4 hL d k (i + 1) (acc ++ [(rd_T84 l2 i).f0]) (by omega) (by simp; omega)
    have e : rd_T84 l2 (i : Int) = l2[i] := by simp [rd_T84, List.getD_eq_getElem?_getD, hlt]
    rw [e] at h ⊢
    rw [show ((i : Int) + 1) = ((i + 1 : Nat) : Int) from rfl, h, List.drop_eq_getElem_cons hlt, List.map_cons, List.append_assoc]; rfl
theorem names_l3 (l0 : List S48) (l1 : List S62) (l2 : List S84) (l3 : List S42) (l4 : List S87) (hL : l3.length ≤ 1000) : ∀ (d k i : Nat) (acc : List ByteArray), i + d = l3.length → acc.length + d < 1000000 →
    r04_names.l3 (d + 1 + k) acc i l0 l1 l2 l3 l4 = r04_names.l4 k (acc ++ (l3.drop i).map S42.f0) 0 l0 l1 l2 l3 l4
  | 0, k, i, acc, hi, ha => by
    rw [show 0 + 1 + k = k + 1 by omega]
    simp only [r04_names.l3]
    rw [if_neg (by omega), List.drop_of_length_le (by omega)]; simp
  | d + 1, k, i, acc, hi, ha => by
    have hlt : i < l3.length := by omega
    rw [show d + 1 + 1 + k = (d + 1 + k) + 1 by omega]
    simp only [r04_names.l3]
    rw [if_pos (by omega), if_pos (by omega), if_pos (by omega), hb_wrap64 _ (by omega) (by omega)]
    have h := names_l3 l0 l1 l2 l3 l4 hL d k (i + 1) (acc ++ [(rd_T42 l3 i).f0]) (by omega) (by simp; omega)
    have e : rd_T42 l3 (i : Int) = l3[i] := by simp [rd_T42, List.getD_eq_getElem?_getD, hlt]
    rw [e] at h ⊢
    rw [show ((i : Int) + 1) = ((i + 1 : Nat) : Int) from rfl, h, List.drop_eq_getElem_cons hlt, List.map_cons, List.append_assoc]; rfl
theorem names_l4 (l0 : List S48) (l1 : List S62) (l2 : List S84) (l3 : List S42) (l4 : List S87) (hL : l4.length ≤ 1000) : ∀ (d k i : Nat) (acc : List ByteArray), i + d = l4.length → acc.length + d < 1000000 →
    r04_names.l4 (d + 1 + k) acc i l0 l1 l2 l3 l4 = r04_names.l5 k (acc ++ (l4.drop i).map S87.f0) 0
  | 0, k, i, acc, hi, ha => by
    rw [show 0 + 1 + k = k + 1 by omega]
    simp only [r04_names.l4]
    rw [if_neg (by omega), List.drop_of_length_le (by omega)]; simp
  | d + 1, k, i, acc, hi, ha => by
    have hlt : i < l4.length := by omega
    rw [show d + 1 + 1 + k = (d + 1 + k) + 1 by omega]
    simp only [r04_names.l4]
    rw [if_pos (by omega), if_pos (by omega), if_pos (by omega), hb_wrap64 _ (by omega) (by omega)]
    have h := names_l4 l0 l1 l2 l3 l4 hL d k (i + 1) (acc ++ [(rd_T87 l4 i).f0]) (by omega) (by simp; omega)
    have e : rd_T87 l4 (i : Int) = l4[i] := by simp [rd_T87, List.getD_eq_getElem?_getD, hlt]
    rw [e] at h ⊢
    rw [show ((i : Int) + 1) = ((i + 1 : Nat) : Int) from rfl, h, List.drop_eq_getElem_cons hlt, List.map_cons, List.append_assoc]; rfl
def allNames (l0 : List S48) (l1 : List S62) (l2 : List S84) (l3 : List S42) (l4 : List S87) : List ByteArray :=
  (l0.map S48.f0) ++ (l1.map S62.f0) ++ (l2.map S84.f0) ++ (l3.map S42.f0) ++ (l4.map S87.f0)
theorem names_ok (l0 : List S48) (l1 : List S62) (l2 : List S84) (l3 : List S42) (l4 : List S87) (h0 : l0.length ≤ 1000) (h1 : l1.length ≤ 1000) (h2 : l2.length ≤ 1000) (h3 : l3.length ≤ 1000) (h4 : l4.length ≤ 1000)
    (hs : ∀ x ∈ allNames l0 l1 l2 l3 l4, x.size ≤ maxLen) :
    Evt (fun k => r04_names.f k l0 l1 l2 l3 l4) ((allNames l0 l1 l2 l3 l4).foldl nmStep (true, [])).1 := by
  refine ⟨(l0.length + 1) + ((l1.length + 1) + ((l2.length + 1) + ((l3.length + 1) + ((l4.length + 1) + (l0.length + l1.length + l2.length + l3.length + l4.length + maxLen + 1000001))))), fun k hk => ?_⟩
  obtain ⟨m, rfl⟩ : ∃ m, k = (l0.length + 1) + ((l1.length + 1) + ((l2.length + 1) + ((l3.length + 1) + ((l4.length + 1) + m)))) := ⟨k - ((l0.length + 1) + ((l1.length + 1) + ((l2.length + 1) + ((l3.length + 1) + (l4.length + 1))))), by omega⟩
  unfold r04_names.f
  have e0 := names_l0 l0 l1 l2 l3 l4 h0 l0.length ((l1.length + 1) + ((l2.length + 1) + ((l3.length + 1) + ((l4.length + 1) + m)))) 0 [] (by omega) (by simp; omega)
  have e1 := fun a (ha : a.length ≤ 5000) => names_l1 l0 l1 l2 l3 l4 h1 l1.length ((l2.length + 1) + ((l3.length + 1) + ((l4.length + 1) + m))) 0 a (by omega) (by omega)
  have e2 := fun a (ha : a.length ≤ 5000) => names_l2 l0 l1 l2 l3 l4 h2 l2.length ((l3.length + 1) + ((l4.length + 1) + m)) 0 a (by omega) (by omega)
  have e3 := fun a (ha : a.length ≤ 5000) => names_l3 l0 l1 l2 l3 l4 h3 l3.length ((l4.length + 1) + m) 0 a (by omega) (by omega)
  have e4 := fun a (ha : a.length ≤ 5000) => names_l4 l0 l1 l2 l3 l4 h4 l4.length m 0 a (by omega) (by omega)
  simp only [Int.natCast_zero, Int.cast_ofNat_Int, List.drop_zero, List.nil_append] at e0 e1 e2 e3 e4
  show r04_names.l0 _ _ _ _ _ _ _ _ = _
  rw [e0, e1 _ (by simp; omega), e2 _ (by simp; omega), e3 _ (by simp; omega), e4 _ (by simp; omega)]
  have h5 := names_l5 (allNames l0 l1 l2 l3 l4) (by simp [allNames]; omega) maxLen hs (by decide) (allNames l0 l1 l2 l3 l4).length m 0 (by omega) (by simp [allNames]; omega)
  simp only [Int.natCast_zero, Int.cast_ofNat_Int, List.drop_zero, List.take_zero, List.map_nil, List.reverse_nil] at h5
  exact h5
theorem cond_ok (x : S48) (i : Nat) (hi : i < 1000000) (k : Nat) (hk : 3 ≤ k) :
    r04_conductor.f k x.f0 x.f1 x.f2 x.f3 x.f4.f0 x.f4.f1 x.f5.f0 x.f5.f1 x.f5.f2 x.f5.f3 x.f5.f4 i = some (condB x i) := by
  obtain ⟨k, rfl⟩ : ∃ k', k = k' + 3 := ⟨k - 3, by omega⟩
  have j2 : ∀ b, r04_conductor.j2 (k + 1) b = some b := fun b => by simp only [r04_conductor.j2]
  have j1 : ∀ b, r04_conductor.j1 (k + 2) b x.f5.f0 x.f5.f1 x.f5.f2 x.f5.f3 x.f5.f4 = some (!b && (decide (x.f5.f0 = 0) && decide (x.f5.f1 = 0) && decide (x.f5.f2 = 0) && decide (x.f5.f3 = 0) && decide (x.f5.f4 = 0) ||
    ins x.f5.f0 0 200000 && ins x.f5.f1 (x.f5.f0 + 1) 200000 && ins x.f5.f2 0 1000 && ins x.f5.f3 0 1000 && ins x.f5.f4 1 1000000)) := by
    intro b
    simp only [r04_conductor.j1, inside_ok, Option.bind_some, j2]
    cases b
    · have hz : (decide (x.f5.f0 = 0) && decide (x.f5.f1 = 0) && decide (x.f5.f2 = 0) && decide (x.f5.f3 = 0) && decide (x.f5.f4 = 0)) = (x.f5.f0 == 0 && (x.f5.f1 == 0 && (x.f5.f2 == 0 && (x.f5.f3 == 0 && (x.f5.f4 == 0))))) := by
        simp only [Bool.and_assoc]; rfl
      rw [hz]
      cases (x.f5.f0 == 0 && (x.f5.f1 == 0 && (x.f5.f2 == 0 && (x.f5.f3 == 0 && (x.f5.f4 == 0)))))
      · cases h1 : ins x.f5.f0 0 200000
        · simp
        · have : 0 ≤ x.f5.f0 ∧ x.f5.f0 ≤ 200000 := by simpa [ins] using h1
          rw [hb_wrap64 _ (by omega) (by omega)]
          cases ins x.f5.f1 (x.f5.f0 + 1) 200000 <;> cases ins x.f5.f2 0 1000 <;> cases ins x.f5.f3 0 1000 <;> simp
      · simp
    · simp
  have j0 : ∀ b, r04_conductor.j0 (k + 3) b x.f0 x.f1 x.f2 x.f3 x.f4.f0 x.f4.f1 x.f5.f0 x.f5.f1 x.f5.f2 x.f5.f3 x.f5.f4 = some (!b && (decide (x.f4.f0 = 0) && decide (x.f4.f1 = 0) || ins x.f4.f0 1 1000 && ins x.f4.f1 0 1000000) && (decide (x.f5.f0 = 0) && decide (x.f5.f1 = 0) && decide (x.f5.f2 = 0) && decide (x.f5.f3 = 0) && decide (x.f5.f4 = 0) ||
    ins x.f5.f0 0 200000 && ins x.f5.f1 (x.f5.f0 + 1) 200000 && ins x.f5.f2 0 1000 && ins x.f5.f3 0 1000 && ins x.f5.f4 1 1000000)) := by
    intro b
    simp only [r04_conductor.j0, inside_ok, Option.bind_some, j1]
    cases b
    · have hz : (!(x.f4.f0 == 0) || (!(x.f4.f1 == 0))) = !(decide (x.f4.f0 = 0) && decide (x.f4.f1 = 0)) := by
        rw [Bool.not_and]; rfl
      rw [hz]
      cases (decide (x.f4.f0 = 0) && decide (x.f4.f1 = 0)) <;> cases ins x.f4.f0 1 1000 <;> cases ins x.f4.f1 0 1000000 <;> simp
    · simp
  unfold r04_conductor.f
  simp only [inside_ok, Option.bind_some, j0]
  rw [hb_wrap64 _ (by omega) (by omega)]
  unfold condB
  by_cases h0 : (i : Int) = 0
  · have h1 : ¬ (i : Int) > 0 := by omega
    rw [if_pos h0, if_neg h1, decide_eq_true h0, decide_eq_false (show ¬ 0 < (i : Int) from h1)]
    by_cases h2 : x.f1 = -1
    · rw [if_pos h2, decide_eq_true h2]
      cases ins x.f2 1 1000 <;> cases ins x.f3 1 1000 <;> simp
    · rw [if_neg h2, decide_eq_false h2]
      cases ins x.f2 1 1000 <;> cases ins x.f3 1 1000 <;> simp
  · have h1 : (i : Int) > 0 := by omega
    rw [if_neg h0, if_pos h1, decide_eq_false h0, decide_eq_true (show 0 < (i : Int) from h1)]
    cases ins x.f2 1 1000 <;> cases ins x.f3 1 1000 <;> simp [Bool.and_assoc]
theorem chg_ok (x : S42) : r04_Charger.f x.f0 x.f1 x.f2 x.f3 x.f4 x.f5 x.f6 x.f7 = some (ins x.f2 1 7 && ins x.f3 1 80 && ins x.f4 x.f3 80 && ins x.f5 1 80 && (decide (x.f6 = 0) || ins x.f6 x.f3 x.f4)) := by
  unfold r04_Charger.f
  simp only [inside_ok, Option.bind_some]
  by_cases h : x.f6 = 0
  · rw [if_pos h, decide_eq_true h]
    cases ins x.f2 1 7 <;> cases ins x.f3 1 80 <;> cases ins x.f4 x.f3 80 <;> cases ins x.f5 1 80 <;> simp
  · rw [if_neg h, decide_eq_false h]
    cases ins x.f2 1 7 <;> cases ins x.f3 1 80 <;> cases ins x.f4 x.f3 80 <;> cases ins x.f5 1 80 <;> simp
def allF (p : Nat → Bool) (i d : Nat) : Bool := (List.range' i d).all p
theorem allF_succ (p : Nat → Bool) (i d : Nat) : allF p i (d + 1) = (p i && allF p (i + 1) d) := by simp [allF, List.range'_succ]
section
variable (l0 : List S48) (l1 : List S62) (l2 : List S84) (l3 : List S42) (l4 : List S87)
theorem v_l4 (h3 : l3.length ≤ 1000) (h4 : l4.length ≤ 1000) : ∀ (d i : Nat), i + d = l4.length →
    Evt (fun k => r04_Valid.l4 k i l0 l1 l2 l3 l4) (allF (fun i => ins (rd_T87 l4 i).f1 0 ((l3.length : Int) - 1)) i d)
  | 0, i, hi => Evt.const fun k _ => by simp only [r04_Valid.l4]; rw [if_neg (by omega)]; rfl
  | d + 1, i, hi => by
    rw [allF_succ]
    cases hb : ins (rd_T87 l4 i).f1 0 ((l3.length : Int) - 1)
    · refine Evt.const fun k _ => ?_
      simp only [r04_Valid.l4, inside_ok, Option.bind_some]
      rw [if_pos (by omega), if_pos (by omega), hb_wrap64 _ (by omega) (by omega), hb]; simp
    · refine (v_l4 h3 h4 d (i + 1) (by omega)).step fun k _ => ?_
      simp only [r04_Valid.l4, inside_ok, Option.bind_some]
      rw [if_pos (by omega), if_pos (by omega), hb_wrap64 ((l3.length : Int) - 1) (by omega) (by omega), hb, if_pos rfl, hb_wrap64 _ (by omega) (by omega)]; rfl
theorem v_l3 (h0 : l0.length ≤ 1000) (h1 : l1.length ≤ 1000) (h3 : l3.length ≤ 1000) (h4 : l4.length ≤ 1000) (R : Bool) (hR : Evt (fun k => r04_Valid.l4 k 0 l0 l1 l2 l3 l4) R) : ∀ (d i : Nat), i + d = l3.length →
    Evt (fun k => r04_Valid.l3 k i l0 l1 l2 l3 l4) (allF (fun i => chgB l0.length l1.length (rd_T42 l3 i)) i d && R)
  | 0, i, hi => by
    show Evt _ R
    refine hR.step fun k _ => ?_
    simp only [r04_Valid.l3]; rw [if_neg (by omega)]
  | d + 1, i, hi => by
    have e : ∀ k, 40 ≤ k → r04_Valid.l3 (k + 1) i l0 l1 l2 l3 l4 = if chgB l0.length l1.length (rd_T42 l3 i) = true then r04_Valid.j6 k i false l0 l1 l2 l3 l4 else some false := by
      intro k hk
      simp only [r04_Valid.l3, inside_ok, chg_ok, Option.bind_some]
      rw [if_pos (by omega), if_pos (by omega), hb_wrap64 ((l0.length : Int) - 1) (by omega) (by omega), hb_wrap64 ((l1.length : Int) - 1) (by omega) (by omega)]
      obtain ⟨k, rfl⟩ : ∃ k', k = k' + 1 := ⟨k - 1, by omega⟩
      have jt : r04_Valid.j6 (k + 1) i true l0 l1 l2 l3 l4 = some false := by simp [r04_Valid.j6]
      unfold chgB
      generalize (rd_T42 l3 (i : Int)) = x
      cases (ins x.f2 1 7) <;> cases (ins x.f3 1 80) <;> cases (ins x.f4 x.f3 80) <;> cases (ins x.f5 1 80) <;> cases (decide (x.f6 = 0) || ins x.f6 x.f3 x.f4) <;> cases (ins x.f1 0 ((l0.length : Int) - 1)) <;> cases (ins x.f7 0 ((l1.length : Int) - 1)) <;> simp [jt]
    rw [allF_succ]
    cases hb : chgB l0.length l1.length (rd_T42 l3 i)
    · exact Evt.const fun k hk => by rw [e k hk, hb]; rfl
    · refine Evt.step (g := fun k => r04_Valid.j6 k i false l0 l1 l2 l3 l4) ?_ (fun k hk => by rw [e k hk, hb]; rfl)
      refine (v_l3 h0 h1 h3 h4 R hR d (i + 1) (by omega)).step fun k hk => ?_
      simp only [r04_Valid.j6]
      rw [if_neg (by decide), hb_wrap64 _ (by omega) (by omega)]; rfl
theorem v_l2 (h2 : l2.length ≤ 1000) (x4 : Nat) (h4 : x4 < l2.length) (a : ByteArray) (b c e : Int) (R : Bool) (hR : Evt (fun k => r04_Valid.l1 k (x4 + 1 : Nat) l0 l1 l2 l3 l4) R) : ∀ (d i : Nat), i + d = x4 →
    Evt (fun k => r04_Valid.l2 k x4 i l0 l1 l2 l3 l4 a b c e) (allF (fun i => !decide ((rd_T84 l2 i).f3 = e)) i d && R)
  | 0, i, hi => by
    show Evt _ R
    refine hR.step fun k _ => ?_
    simp only [r04_Valid.l2]; rw [if_neg (by omega), hb_wrap64 _ (by omega) (by omega)]; rfl
  | d + 1, i, hi => by
    rw [allF_succ]
    by_cases hb : (rd_T84 l2 i).f3 = e
    · rw [decide_eq_true hb]
      refine Evt.const fun k _ => ?_
      simp only [r04_Valid.l2]
      rw [if_pos (by omega), if_pos (by omega), if_pos (by omega), if_pos hb]; rfl
    · rw [decide_eq_false hb]
      refine (v_l2 h2 x4 h4 a b c e R hR d (i + 1) (by omega)).step fun k hk => ?_
      simp only [r04_Valid.l2]
      rw [if_pos (by omega), if_pos (by omega), if_pos (by omega), if_neg hb, hb_wrap64 _ (by omega) (by omega)]; rfl
theorem cards_eq (i : Nat) (hi : i < l2.length) (e : Int) : allF (fun m => !decide ((rd_T84 l2 m).f3 = e)) 0 i = !decide (e ∈ ((l2.take i).map S84.f3).reverse) := by
  rw [Bool.eq_iff_iff]
  simp only [allF, List.all_eq_true, List.mem_range'_1, Nat.zero_le, Nat.zero_add, true_and, Bool.not_eq_true', decide_eq_false_iff_not, List.mem_reverse, List.mem_map, not_exists, not_and]
  constructor
  · intro h x hx
    obtain ⟨m, hm, rfl⟩ := List.mem_iff_getElem.1 hx
    have hm' : m < i := by simp at hm; omega
    have := h m hm'
    simpa [rd_T84, List.getD_eq_getElem?_getD, show m < l2.length by omega] using this
  · intro h m hm
    have := h l2[m] (by rw [List.mem_iff_getElem]; exact ⟨m, by simp; omega, by simp⟩)
    simpa [rd_T84, List.getD_eq_getElem?_getD, show m < l2.length by omega] using this
theorem v_l1 (h1 : l1.length ≤ 1000) (h2 : l2.length ≤ 1000) (R : Bool) (hR : Evt (fun k => r04_Valid.l3 k 0 l0 l1 l2 l3 l4) R) : ∀ (d i : Nat), i + d = l2.length →
    Evt (fun k => r04_Valid.l1 k i l0 l1 l2 l3 l4) (allF (contB l1.length l2) i d && R)
  | 0, i, hi => by
    show Evt _ R
    refine hR.step fun k _ => ?_
    simp only [r04_Valid.l1]; rw [if_neg (by omega)]
  | d + 1, i, hi => by
    have e : ∀ k, 40 ≤ k → r04_Valid.l1 (k + 1) i l0 l1 l2 l3 l4 = if (ins (rd_T84 l2 i).f1 0 ((l1.length : Int) - 1) && ins (rd_T84 l2 i).f2 1 9 && ins (rd_T84 l2 i).f3 1 1000000) = true then
        r04_Valid.j3 k i false l0 l1 l2 l3 l4 ((rd_T84 l2 i).f0) ((rd_T84 l2 i).f1) ((rd_T84 l2 i).f2) ((rd_T84 l2 i).f3) else some false := by
      intro k hk
      simp only [r04_Valid.l1, inside_ok, Option.bind_some]
      rw [if_pos (by omega), if_pos (by omega), hb_wrap64 ((l1.length : Int) - 1) (by omega) (by omega)]
      obtain ⟨k, rfl⟩ : ∃ k', k = k' + 1 := ⟨k - 1, by omega⟩
      generalize (rd_T84 l2 (i : Int)) = x
      have jt : r04_Valid.j3 (k + 1) i true l0 l1 l2 l3 l4 x.f0 x.f1 x.f2 x.f3 = some false := by simp [r04_Valid.j3]
      cases (ins x.f1 0 ((l1.length : Int) - 1)) <;> cases (ins x.f2 1 9) <;> cases (ins x.f3 1 1000000) <;> simp [jt]
    rw [allF_succ]
    have hc : contB l1.length l2 i = ((ins (rd_T84 l2 i).f1 0 ((l1.length : Int) - 1) && ins (rd_T84 l2 i).f2 1 9 && ins (rd_T84 l2 i).f3 1 1000000) && allF (fun m => !decide ((rd_T84 l2 m).f3 = (rd_T84 l2 i).f3)) 0 i) := by
      rw [cards_eq l2 i (by omega)]; rfl
    rw [hc]
    cases hb : (ins (rd_T84 l2 i).f1 0 ((l1.length : Int) - 1) && ins (rd_T84 l2 i).f2 1 9 && ins (rd_T84 l2 i).f3 1 1000000)
    · exact Evt.const fun k hk => by rw [e k hk, hb]; rfl
    · refine Evt.step (g := fun k => r04_Valid.j3 k i false l0 l1 l2 l3 l4 ((rd_T84 l2 i).f0) ((rd_T84 l2 i).f1) ((rd_T84 l2 i).f2) ((rd_T84 l2 i).f3)) ?_ (fun k hk => by rw [e k hk, hb]; rfl)
      rw [Bool.true_and, Bool.and_assoc]
      refine (v_l2 l0 l1 l2 l3 l4 h2 i (by omega) (rd_T84 l2 i).f0 (rd_T84 l2 i).f1 (rd_T84 l2 i).f2 (rd_T84 l2 i).f3 _ (v_l1 h1 h2 R hR d (i + 1) (by omega)) i 0 (by omega)).step fun k hk => ?_
      simp only [r04_Valid.j3]
      rw [if_neg (by decide)]; rfl
theorem v_l0 (h0 : l0.length ≤ 1000) (R : Bool) (hR : Evt (fun k => r04_Valid.l1 k 0 l0 l1 l2 l3 l4) R) : ∀ (d i : Nat), i + d = l0.length →
    Evt (fun k => r04_Valid.l0 k i l0 l1 l2 l3 l4) (allF (fun i => condB (rd_T48 l0 i) i) i d && R)
  | 0, i, hi => by
    show Evt _ R
    refine hR.step fun k _ => ?_
    simp only [r04_Valid.l0]; rw [if_neg (by omega)]
  | d + 1, i, hi => by
    rw [allF_succ]
    cases hb : condB (rd_T48 l0 i) i
    · refine Evt.const fun k _ => ?_
      simp only [r04_Valid.l0]
      rw [if_pos (by omega), if_pos (by omega), cond_ok _ i (by omega) k (by omega), hb]; rfl
    · refine (v_l0 h0 R hR d (i + 1) (by omega)).step fun k _ => ?_
      simp only [r04_Valid.l0]
      rw [if_pos (by omega), if_pos (by omega), cond_ok _ i (by omega) k (by omega), hb, Option.bind_some, if_pos rfl, hb_wrap64 _ (by omega) (by omega)]; rfl
theorem andTo_all (b0 : Bool) (p : Nat → Bool) : ∀ n, andTo b0 p n = (b0 && allF p 0 n)
  | 0 => by simp [andTo, allF]
  | n + 1 => by simp [andTo, allF, andTo_all b0 p n, List.range'_concat, Bool.and_assoc]
theorem valid_ok (hs : ∀ x ∈ allNames l0 l1 l2 l3 l4, x.size ≤ maxLen) : Evt (fun k => r04_Valid.f k l0 l1 l2 l3 l4) (validB l0 l1 l2 l3 l4) := by
  have jt : ∀ k, r04_Valid.j0 (k + 1) true l0 l1 l2 l3 l4 = some false := fun k => by simp [r04_Valid.j0]
  have bad : ∀ b : Bool, b = false → (∀ k, r04_Valid.f (k + 1) l0 l1 l2 l3 l4 = some false) → Evt (fun k => r04_Valid.f k l0 l1 l2 l3 l4) b := fun b hb e => by rw [hb]; exact Evt.const fun k _ => e k
  have hv : validB l0 l1 l2 l3 l4 = (ins l0.length 1 16 && decide (l1.length ≤ 8) && decide (l2.length ≤ 32) && decide (l3.length ≤ 16) && decide (l4.length ≤ 24) &&
      (((allNames l0 l1 l2 l3 l4).foldl nmStep (true, [])).1 && (allF (fun i => condB (rd_T48 l0 i) i) 0 l0.length && (allF (contB l1.length l2) 0 l2.length && (allF (fun i => chgB l0.length l1.length (rd_T42 l3 i)) 0 l3.length && allF (fun i => ins (rd_T87 l4 i).f1 0 ((l3.length : Int) - 1)) 0 l4.length))))) := by
    unfold validB
    simp only [andTo_all, Bool.and_assoc]; rfl
  by_cases c0 : ins l0.length 1 16 = true
  rotate_left
  · have c0 : ins l0.length 1 16 = false := by simpa using c0
    refine bad _ (by rw [hv, c0]; simp) fun k => ?_
    unfold r04_Valid.f
    rw [inside_ok, c0]; simp [jt]
  have hl0 : l0.length ≤ 16 := by have : (1 : Int) ≤ l0.length ∧ (l0.length : Int) ≤ 16 := by simpa [ins] using c0
                                  omega
  by_cases c1 : l1.length ≤ 8
  rotate_left
  · refine bad _ (by rw [hv, decide_eq_false c1]; simp) fun k => ?_
    unfold r04_Valid.f
    rw [inside_ok, c0, Option.bind_some, if_pos rfl, if_pos (by omega), jt]
  by_cases c2 : l2.length ≤ 32
  rotate_left
  · refine bad _ (by rw [hv, decide_eq_false c2]; simp) fun k => ?_
    unfold r04_Valid.f
    rw [inside_ok, c0, Option.bind_some, if_pos rfl, if_neg (by omega), if_pos (by omega), jt]
  by_cases c3 : l3.length ≤ 16
  rotate_left
  · refine bad _ (by rw [hv, decide_eq_false c3]; simp) fun k => ?_
    unfold r04_Valid.f
    rw [inside_ok, c0, Option.bind_some, if_pos rfl, if_neg (by omega), if_neg (by omega), if_pos (by omega), jt]
  by_cases c4 : l4.length ≤ 24
  rotate_left
  · refine bad _ (by rw [hv, decide_eq_false c4]; simp) fun k => ?_
    unfold r04_Valid.f
    rw [inside_ok, c0, Option.bind_some, if_pos rfl, if_neg (by omega), if_neg (by omega), if_neg (by omega), if_pos (by omega), jt]
  have w4 := v_l4 l0 l1 l2 l3 l4 (by omega) (by omega) l4.length 0 (by omega)
  have w3 := v_l3 l0 l1 l2 l3 l4 (by omega) (by omega) (by omega) (by omega) _ w4 l3.length 0 (by omega)
  have w1 := v_l1 l0 l1 l2 l3 l4 (by omega) (by omega) _ w3 l2.length 0 (by omega)
  have w0 := v_l0 l0 l1 l2 l3 l4 (by omega) _ w1 l0.length 0 (by omega)
  have wn := names_ok l0 l1 l2 l3 l4 (by omega) (by omega) (by omega) (by omega) (by omega) hs
  rw [hv, c0, decide_eq_true c1, decide_eq_true c2, decide_eq_true c3, decide_eq_true c4]
  obtain ⟨K0, hK0⟩ := w0
  obtain ⟨K1, hK1⟩ := wn
  refine ⟨K0 + K1 + 1, fun k hk => ?_⟩
  show r04_Valid.f k l0 l1 l2 l3 l4 = _
  unfold r04_Valid.f
  have a1 : r04_names.f k l0 l1 l2 l3 l4 = _ := hK1 k (by omega)
  rw [inside_ok, c0, Option.bind_some, if_pos rfl, if_neg (by omega), if_neg (by omega), if_neg (by omega), if_neg (by omega), a1]
  obtain ⟨k, rfl⟩ : ∃ k', k = k' + 1 := ⟨k - 1, by omega⟩
  have a0 : r04_Valid.l0 k 0 l0 l1 l2 l3 l4 = _ := hK0 k (by omega)
  simp only [Option.bind_some, r04_Valid.j0]
  cases ((allNames l0 l1 l2 l3 l4).foldl nmStep (true, [])).1
  · simp
  · simp only [Bool.not_true, Bool.false_eq_true, if_false, Bool.true_and]
    exact a0
end
end Go.Proofs.Ytpdmnineampimaa.Basevalid
