import Derived.Test.YtpdmnineampimaaYe
import Derived.Test.YtpdmnineampimaaYQx18
import Derived.Test.YtpdmnineampimaaYQx19
set_option linter.unusedVariables false
set_option linter.unusedSimpArgs false
namespace Go.Proofs.Ytpdmnineampimaa.Q
open Go.RowKit Go.Proofs.YtpdmnineampimaaW.PrintWords Go.Proofs.YtpdmnineampimaaW.PrintLast Go.Proofs.YtpdmnineampimaaW.PrintMore
attribute [local go_sem] max2_int min2_int max_two min_two max_three min_three max_four min_four
theorem isItem_leaf (a : ByteArray) (r : Bool) (w : World) (h : parser_isName.f a = some r) :
    Calls Try.prog 57 #[.agg #[.int .i64 2, .string a, .int .i64 3, .int .i64 0, .slice none 0 0]] w fun e w' => e = .returned (.bool r) ∧ Below w.heap.size w w' := by
  have H := Lib.hid h
  clear h
  go_enter Try.func57, Try.ntmps57
  go_wp2_with fail
  refine (parser_isName.calls a _ _ H.out).mono ?_
  rintro e w1 ⟨rfl, hb⟩
  have hB := below_step (below_alloc (Below.refl _ w) (.cells #[.int .i64 2, .string a, .int .i64 3, .int .i64 0, .slice none 0 0] 93)) hb
  obtain ⟨hc, hf⟩ := hb_cells hb
  cases r
  · go_wp2_with fail
    go_ret
    exact ⟨rfl, by repeat (first | exact hB | refine below_set ?_ (by simp) | apply below_alloc | apply pw_below_drewN)⟩
  · have hw1 : w1.heap[w.heap.size]? = some (.cells #[.int .i64 2, .string a, .int .i64 3, .int .i64 0, .slice none 0 0] 93 (0, 0)) := (hb.block _ (by simp)).trans (by simpa using heap_alloc_new w (.cells #[.int .i64 2, .string a, .int .i64 3, .int .i64 0, .slice none 0 0] 93))
    have c0 := blk_cell hw1 0
    have c1 := blk_cell hw1 1
    have c2 := blk_cell hw1 2
    have c3 := blk_cell hw1 3
    have c4 := blk_cell hw1 4
    simp only [List.getElem?_toArray, List.getElem?_cons_zero, List.getElem?_cons_succ] at c0 c1 c2 c3 c4
    go_wp2_with fail
    go_loopw [3, 28] (fun x i wr => x = .int .i64 3 ∧ i = .int .i64 0 ∧ wr = w1) (fun _ _ _ => 0)
    case atStart => exact ⟨rfl, rfl, rfl⟩
    case round =>
      obtain ⟨rfl, rfl, rfl⟩ := hrel
      go_wp2_with fail
      go_ret
      exact ⟨rfl, hB⟩
theorem notItem_leaf (a : ByteArray) (r : Bool) (w : World) (h : parser_isName.f a = some r) :
    Calls Try.prog 56 #[.agg #[.int .i64 2, .string a, .int .i64 3, .int .i64 0, .slice none 0 0]] w fun e w' => e = .returned (.bool (!r)) ∧ Below w.heap.size w w' := by
  have H := Lib.hid h
  clear h
  go_enter Try.func56, Try.ntmps56
  go_wp2_with fail
  refine (isItem_leaf a _ _ H.out).mono ?_
  rintro e w1 ⟨rfl, hb⟩
  go_wp2_with fail
  go_ret
  exact ⟨rfl, below_step (below_alloc (Below.refl _ w) (.cells #[.int .i64 2, .string a, .int .i64 3, .int .i64 0, .slice none 0 0] 93)) hb⟩
theorem index_one (a : ByteArray) (r : Bool) (g c : Nat) (w : World) (h : parser_isName.f a = some r) (hg : w.heap[g]? = some (.cells #[.int .i64 2, .string a, .int .i64 3, .int .i64 0, .slice none 0 0] 93 (0, 0))) :
    Calls Try.prog 63 #[.slice (some ⟨g, 0, none⟩) 1 c, .func (.func 56) #[] #[]] w fun e w' => e = .returned (.int .i64 (if r then -1 else 0)) ∧ Below w.heap.size w w' := by
  have H := Lib.hid h
  clear h
  have c0 := blk_cell hg 0
  have c1 := blk_cell hg 1
  have c2 := blk_cell hg 2
  have c3 := blk_cell hg 3
  have c4 := blk_cell hg 4
  simp only [List.getElem?_toArray, List.getElem?_cons_zero, List.getElem?_cons_succ] at c0 c1 c2 c3 c4
  go_enter Try.func63, Try.ntmps63
  go_wp2_with fail
  go_loopw [4, 8] (fun x i wr => x = .int .i64 0 ∧ ((i = .int .i64 0 ∧ wr = w) ∨ (r = true ∧ i = .int .i64 1 ∧ Below w.heap.size w wr))) (fun _ i _ => 1 - (intOf i).toNat)
  case atStart => exact ⟨rfl, .inl ⟨rfl, rfl⟩⟩
  case round =>
    obtain ⟨rfl, ⟨rfl, rfl⟩ | ⟨hr, rfl, hb⟩⟩ := hrel
    · go_wp2_with fail
      refine (notItem_leaf a _ _ H.out).mono ?_
      rintro e w1 ⟨rfl, hb⟩
      cases r
      · go_wp2_with fail
        go_ret
        exact ⟨rfl, hb⟩
      · go_wp2_with fail
        go_roundw
        case rel => exact ⟨rfl, .inr ⟨by trivial, rfl, hb⟩⟩
        case measure => simp [intOf]
    · subst hr
      go_wp2_with fail
      go_ret
      exact ⟨rfl, hb⟩
theorem contains_one (a : ByteArray) (r : Bool) (g c : Nat) (w : World) (h : parser_isName.f a = some r) (hg : w.heap[g]? = some (.cells #[.int .i64 2, .string a, .int .i64 3, .int .i64 0, .slice none 0 0] 93 (0, 0))) :
    Calls Try.prog 55 #[.slice (some ⟨g, 0, none⟩) 1 c, .func (.func 56) #[] #[]] w fun e w' => e = .returned (.bool (!r)) ∧ Below w.heap.size w w' := by
  go_enter Try.func55, Try.ntmps55
  go_wp2_with fail
  refine (index_one a r g c _ h hg).mono ?_
  rintro e w1 ⟨rfl, hb⟩
  cases r
  · go_wp2_with fail
    go_ret
    exact ⟨rfl, hb⟩
  · go_wp2_with fail
    go_ret
    exact ⟨rfl, hb⟩
theorem count_two (a : ByteArray) (g c : Nat) (w : World) (hc : 1 ≤ c) (hg : w.heap[g]? = some (.cells #[.int .i64 2, .string a, .int .i64 3, .int .i64 0, .slice none 0 0] 93 (0, 0))) :
    Calls Try.prog 54 #[.agg #[.int .i64 1, .string ⟨#[]⟩, .int .i64 0, .int .i64 0, .slice (some ⟨g, 0, none⟩) 1 c], .int .i64 1500] w fun e w' => e = .returned (.int .i64 2) ∧ Below w.heap.size w w' := by
  refine parser_count.calls 4 1 ⟨#[]⟩ 0 0 (some ⟨g, 0, none⟩) c [⟨2, a, 3, 0, []⟩] 1500 2 w ?_ hc (by simp [parser_count.f, parser_count.l0, wrap64, rd_T93])
  refine ⟨rfl, by simp, fun _ => ⟨⟨g, 0, none⟩, rfl, fun j p hj => ?_⟩⟩
  have hj0 : j = 0 := by
    have := (List.getElem?_eq_some_iff.1 hj).1
    simpa using this
  subst hj0
  simp only [List.getElem?_cons_zero, Option.some.injEq] at hj
  subst hj
  refine ⟨_, rfl, k93_mk w ⟨2, a, 3, 0, []⟩ (A4 := none) (c4 := 0) (Nat.le_refl 0) (Kd.C_nil _ _), fun i u hu => ?_⟩
  rw [show (⟨g, 0, none⟩ : Addr).add (0 * k93.sz + i) = ⟨g, i, none⟩ by simp [Addr.add]; exact fun h => h.symm, cell_of_row w g i _ _ _ hg]
  simpa using hu
theorem valid_two (a : ByteArray) (r : Bool) (g c : Nat) (w : World) (hc : 1 ≤ c) (h : parser_isName.f a = some r) (hg : w.heap[g]? = some (.cells #[.int .i64 2, .string a, .int .i64 3, .int .i64 0, .slice none 0 0] 93 (0, 0))) :
    Calls Try.prog 51 #[.agg #[.int .i64 1, .string ⟨#[]⟩, .int .i64 0, .int .i64 0, .slice (some ⟨g, 0, none⟩) 1 c]] w fun e w' => e = .returned (.bool r) ∧ Below w.heap.size w w' := by
  have H := Lib.hid h
  clear h
  have hgl : g < w.heap.size := (Array.getElem?_eq_some_iff.1 hg).1
  go_enter Try.func51, Try.ntmps51
  go_wp2_with fail
  refine (count_two a g c _ hc ((heap_alloc_old w _ (by omega)).trans hg)).mono ?_
  rintro e w1 ⟨rfl, hb⟩
  have hB := below_step (below_alloc (Below.refl _ w) (.cells #[.int .i64 1, .string ⟨#[]⟩, .int .i64 0, .int .i64 0, .slice (some ⟨g, 0, none⟩) 1 c] 93)) hb
  have hw1 : w1.heap[w.heap.size]? = some (.cells #[.int .i64 1, .string ⟨#[]⟩, .int .i64 0, .int .i64 0, .slice (some ⟨g, 0, none⟩) 1 c] 93 (0, 0)) := (hb.block _ (by simp)).trans (by simpa using heap_alloc_new w (.cells #[.int .i64 1, .string ⟨#[]⟩, .int .i64 0, .int .i64 0, .slice (some ⟨g, 0, none⟩) 1 c] 93))
  have hg1 : w1.heap[g]? = some (.cells #[.int .i64 2, .string a, .int .i64 3, .int .i64 0, .slice none 0 0] 93 (0, 0)) := (hB.block _ hgl).trans hg
  have c0 := blk_cell hw1 0
  have c1 := blk_cell hw1 1
  have c2 := blk_cell hw1 2
  have c3 := blk_cell hw1 3
  have c4 := blk_cell hw1 4
  simp only [List.getElem?_toArray, List.getElem?_cons_zero, List.getElem?_cons_succ] at c0 c1 c2 c3 c4
  go_wp2_with fail
  refine (contains_one a r g c _ H.out hg1).mono ?_
  rintro e w2 ⟨rfl, hb2⟩
  go_wp2_with fail
  go_ret
  exact ⟨by simp, below_step hB hb2⟩
def site_named.f (a0 : ByteArray) : Option (Bool) := parser_isName.f a0
theorem site_named.calls (a0 : ByteArray) (r : Bool) (w : World) (h : site_named.f a0 = some r) :
    Calls Try.prog 41 #[.string a0] w fun e w' => e = .returned (.bool r) ∧ Below w.heap.size w w' := by
  have H := Lib.hid h
  clear h
  go_enter Try.func41, Try.ntmps41
  go_wp2_with fail
  have hg := heap_alloc_new w (.cells #[.int .i64 2, .string a0, .int .i64 3, .int .i64 0, .slice none 0 0] 93)
  refine (valid_two a0 r w.heap.size 1 _ (Nat.le_refl 1) H.out hg).mono ?_
  rintro e w1 ⟨rfl, hb⟩
  have hB := below_step (below_alloc (Below.refl _ w) (.cells #[.int .i64 2, .string a0, .int .i64 3, .int .i64 0, .slice none 0 0] 93)) hb
  go_wp2_with fail
  go_ret
  exact ⟨rfl, hB⟩
end Go.Proofs.Ytpdmnineampimaa.Q
