import Derived.Test.YtpdmnineampimaaYe
import Derived.Test.YtpdmnineampimaaYQx11
import Derived.Test.YtpdmnineampimaaYQx24
import Derived.Test.YtpdmnineampimaaYQx25
set_option linter.unusedVariables false
set_option linter.unusedSimpArgs false
namespace Go.Proofs.Ytpdmnineampimaa.Q
open Go.RowKit Go.Proofs.YtpdmnineampimaaW.PrintWords Go.Proofs.YtpdmnineampimaaW.PrintLast Go.Proofs.YtpdmnineampimaaW.PrintMore
attribute [local go_sem] max2_int min2_int max_two min_two max_three min_three max_four min_four
attribute [local go_sem] Oper.semAt_some
set_option maxRecDepth 100000 in
set_option maxHeartbeats 2000000 in
theorem below1_calls (A0 A1 A2 A3 A4 : Option Addr) (c0 c1 c2 c3 c4 n1 n2 n3 n4 : Nat) (l0 : List S48) (x : S42) (k : Int) (w : World) (bs bc : Nat)
    (hs : w.heap[bs]? = some (.cells #[.slice A0 l0.length c0, .slice A1 n1 c1, .slice A2 n2 c2, .slice A3 n3 c3, .slice A4 n4 c4] 28 (0, 0))) (hk : w.heap[bc]? = some (.cells #[.int .i64 k] 3 (0, 0)))
    (hC : Kd.C k48 w A0 l0.length l0) (hU : UpFine l0) (h16 : l0.length ≤ 16) (hx0 : 0 ≤ x.f1) (hx1 : x.f1 < l0.length) :
    Calls Try.prog 37 #[.agg #[.string x.f0, .int .i64 x.f1, .int .i64 x.f2, .int .i64 x.f3, .int .i64 x.f4, .int .i64 x.f5, .int .i64 x.f6, .int .i64 x.f7], .pointer (some ⟨bs, 0, none⟩), .pointer (some ⟨bc, 0, none⟩)] w fun e w' =>
      e = .returned (.bool (decide (k ∈ upL l0 17 x.f1))) ∧ Below w.heap.size w w' := by
  have hbs : bs < w.heap.size := (Array.getElem?_eq_some_iff.1 hs).1
  have hbc : bc < w.heap.size := (Array.getElem?_eq_some_iff.1 hk).1
  refine (callsIn_wide (n := 0)).1 ?_
  refine callsIn_of_wp_marks Try.func37 rfl trivial ?_ rfl
  simp only [Try.ntmps37, List.size_toArray, List.length_cons, List.length_nil, Nat.reduceAdd, Nat.reduceSub, Array.replicate_succ, Array.replicate_zero, List.push_toArray, List.append_toArray, List.nil_append, List.cons_append]
  have s0 := blk_cell hs 0
  have s1 := blk_cell hs 1
  have s2 := blk_cell hs 2
  have s3 := blk_cell hs 3
  have s4 := blk_cell hs 4
  simp only [List.getElem?_toArray, List.getElem?_cons_zero, List.getElem?_cons_succ] at s0 s1 s2 s3 s4
  gi_wp2
  refine ⟨trivial, rfl, callsIn_wide.2 ((upward_calls _ _ _ _ _ _ _ _ _ _ _ _ _ _ _ _ _).mono ?_)⟩
  rintro e w1 ⟨rfl, rfl⟩
  gi_wp2
  obtain ⟨W0, hW0⟩ : ∃ W0, (((w.alloc (.cells #[.string x.f0, .int .i64 x.f1, .int .i64 x.f2, .int .i64 x.f3, .int .i64 x.f4, .int .i64 x.f5, .int .i64 x.f6, .int .i64 x.f7] 42)).alloc (.cells #[.bool false] 4)).alloc (.cells #[.slice A0 l0.length c0, .slice A1 n1 c1, .slice A2 n2 c2, .slice A3 n3 c3, .slice A4 n4 c4] 28)).alloc (.cells #[.int .i64 x.f1] 3) = W0 := ⟨_, rfl⟩
  have hsz1 : w.heap.size + 4 ≤ W0.heap.size := by rw [← hW0]; simp
  have hB0 : Below w.heap.size w W0 := by rw [← hW0]; exact below_alloc (below_alloc (below_alloc (below_alloc (Below.refl _ w) _) _) _) _
  have r0 : W0.heap[w.heap.size + 1]? = some (.cells #[.bool false] 4 (0, 0)) := by
    rw [← hW0]
    refine (Below.heap_alloc _ _ _ (by simp)).trans ((Below.heap_alloc _ _ _ (by simp)).trans ?_)
    have := heap_alloc_new (w.alloc (.cells #[.string x.f0, .int .i64 x.f1, .int .i64 x.f2, .int .i64 x.f3, .int .i64 x.f4, .int .i64 x.f5, .int .i64 x.f6, .int .i64 x.f7] 42)) (.cells #[.bool false] 4)
    rwa [World.size_alloc] at this
  have r2 : W0.heap[w.heap.size + 1 + 1]? = some (.cells #[.slice A0 l0.length c0, .slice A1 n1 c1, .slice A2 n2 c2, .slice A3 n3 c3, .slice A4 n4 c4] 28 (0, 0)) := by
    rw [← hW0]
    refine (Below.heap_alloc _ _ _ (by simp)).trans ?_
    have := heap_alloc_new ((w.alloc (.cells #[.string x.f0, .int .i64 x.f1, .int .i64 x.f2, .int .i64 x.f3, .int .i64 x.f4, .int .i64 x.f5, .int .i64 x.f6, .int .i64 x.f7] 42)).alloc (.cells #[.bool false] 4)) (.cells #[.slice A0 l0.length c0, .slice A1 n1 c1, .slice A2 n2 c2, .slice A3 n3 c3, .slice A4 n4 c4] 28)
    rwa [World.size_alloc, World.size_alloc] at this
  have r3 : W0.heap[w.heap.size + 1 + 1 + 1]? = some (.cells #[.int .i64 x.f1] 3 (0, 0)) := by
    rw [← hW0]
    have := heap_alloc_new (((w.alloc (.cells #[.string x.f0, .int .i64 x.f1, .int .i64 x.f2, .int .i64 x.f3, .int .i64 x.f4, .int .i64 x.f5, .int .i64 x.f6, .int .i64 x.f7] 42)).alloc (.cells #[.bool false] 4)).alloc (.cells #[.slice A0 l0.length c0, .slice A1 n1 c1, .slice A2 n2 c2, .slice A3 n3 c3, .slice A4 n4 c4] 28)) (.cells #[.int .i64 x.f1] 3)
    rwa [World.size_alloc, World.size_alloc, World.size_alloc] at this
  have hit := Lib.hid (upward_iter A0 A1 A2 A3 A4 c0 c1 c2 c3 c4 n1 n2 n3 n4 l0 x.f1 W0 (w.heap.size + 1 + 1) (w.heap.size + 1 + 1 + 1) w.heap.size (by omega) (by omega) r2 r3 (by omega) (blockC hC) (Kd.C_below hC hB0) hU h16 (by omega) hx1)
  have hlen := upL_len l0 17 x.f1
  rw [hW0]
  clear hW0 s0 s1 s2 s3 s4 r2 r3 hU
  obtain ⟨xs, hxs⟩ : ∃ xs, upL l0 17 x.f1 = xs := ⟨_, rfl⟩
  rw [hxs] at hit hlen
  have HXS := Lib.hid hxs
  clear hxs
  refine wp_rangeFunc_iter (g := .tmp 9) (ps := #[10]) (a := ⟨?T0, []⟩) (gf := 45) (lb := #[.pointer (some ⟨w.heap.size + 1 + 1 + 1, 0, none⟩), .pointer (some ⟨w.heap.size + 1 + 1, 0, none⟩)]) ?hg (enters_of Try.func45 (by kernel_rfl) rfl)
    (T := fun _ => False) (R := fun k => k < w.heap.size ∨ k = w.heap.size + 1 + 1 ∨ k = w.heap.size + 1 + 1 + 1) (fun k hk => by omega) hit.out (fun _ => rfl)
    (fun i W => (∀ j, j < i → xs.getD j 0 ≠ k) ∧ W.heap[w.heap.size + 1]? = some (.cells #[.bool false] 4 (0, 0)) ∧ Below w.heap.size w W ∧ W0.heap.size ≤ W.heap.size)
    (fun c i W => c = .ret ∧ k ∈ xs ∧ W.heap[w.heap.size + 1]? = some (.cells #[.bool true] 4 (0, 0)) ∧ Below w.heap.size w W ∧ W0.heap.size ≤ W.heap.size)
    (fun i W W' hI ht => by
      obtain ⟨i1, i2, i3, i4⟩ := hI
      exact ⟨i1, (ht.block _ (by omega) (by rintro (⟨h, _⟩ | h | h) <;> omega)).trans i2, ht.below i3 i3.size (by rintro k (⟨h, _⟩ | h | h); exact h.elim; all_goals omega), by have := ht.size; omega⟩)
    (fun c i W W' hI ht => by
      obtain ⟨i0, i1, i2, i3, i4⟩ := hI
      exact ⟨i0, i1, (ht.block _ (by omega) (by rintro (⟨h, _⟩ | h | h) <;> omega)).trans i2, ht.below i3 i3.size (by rintro k (⟨h, _⟩ | h | h); exact h.elim; all_goals omega), by have := ht.size; omega⟩)
    ⟨by simp, r0, hB0, Nat.le_refl _⟩
    (fun i a1 W => a1 = ⟨(Array.setIfInBounds (Array.setIfInBounds ?T0 10 (.int .i64 (xs.getD i 0))) 5 (.int .i64 (xs.getD i 0))), []⟩ ∧ (∀ j, j < i → xs.getD j 0 ≠ k) ∧ W.heap[w.heap.size + 1]? = some (.cells #[.bool false] 4 (0, 0)) ∧ Below w.heap.size w W ∧ W0.heap.size ≤ W.heap.size)
    (fun i a1 W W' hA ht => by
      obtain ⟨i0, i1, i2, i3, i4⟩ := hA
      exact ⟨i0, i1, (ht.block _ (by omega) (by omega)).trans i2, ht.below i3 i3.size (fun k hk => by omega), by have := ht.size; omega⟩)
    ?assign ?body ?done ?stop
  case hg => rfl
  case assign =>
    intro ll i hi' W hI hsz' K hK
    have e : xs[i] = xs.getD i 0 := by simp [List.getD_eq_getElem?_getD, hi']
    rw [e]
    have HI := Lib.hid hI
    clear hI
    generalize xs.getD i 0 = y at *
    gi_wp2
    exact hK _ _ ⟨rfl, HI.out⟩ (Turns.refl _ _)
  case body =>
    rintro ll i hi' a1 W ⟨rfl, i1, i2, i3, i4⟩ hsz'
    have hmem : xs.getD i 0 ∈ xs := by
      have e : xs[i] = xs.getD i 0 := by simp [List.getD_eq_getElem?_getD, hi']
      rw [← e]; exact List.getElem_mem hi'
    have I1 := Lib.hid i1
    have hkw := blk_cell ((i3.block _ hbc).trans hk) 0
    have cr := blk_cell i2 0
    have fr := blk_frozen i2 0
    simp only [List.getElem?_toArray, List.getElem?_cons_zero] at hkw cr
    have HE : ∀ z, Hid (xs.getD i 0 = z → ∀ j, j < i + 1 → xs.getD j 0 = xs.getD j 0) := fun _ => Lib.hid (fun _ _ _ => rfl)
    clear i1 HE
    simp only [List.setIfInBounds_toArray, List.set_cons_zero, List.set_cons_succ]
    obtain ⟨y, hy⟩ : ∃ y, xs.getD i 0 = y := ⟨_, rfl⟩
    rw [hy] at hmem ⊢
    have HY := Lib.hid hy
    clear hy
    by_cases hyk : y = k
    · have hd : (y == k) = true := by simpa using hyk
      have HK := Lib.hid hyk
      clear hyk
      gi_wp2
      refine ⟨Turns.setCell _ _ ⟨w.heap.size + 1, 0, none⟩ _ ?_, rfl, ?_, blk_put i2 0 _ rfl, below_set i3 (by omega), by simpa [World.setCell] using i4⟩
      · show ¬ (w.heap.size + 1 = W0.heap.size ∨ w.heap.size + 1 = W0.heap.size + 1)
        omega
      · rw [← HK.out]; exact hmem
    · have hd : (y == k) = false := by simpa using hyk
      have HK := Lib.hid hyk
      clear hyk
      gi_wp2
      refine ⟨Turns.refl _ _, fun j hj => ?_, i2, i3, i4⟩
      by_cases e : j = i
      · subst e; rw [HY.out]; exact HK.out
      · exact I1.out j (by omega)
  case done =>
    rintro W ⟨i1, i2, i3, i4⟩ hD
    have I1 := Lib.hid i1
    clear i1
    have cr := blk_cell i2 0
    have fr := blk_frozen i2 0
    simp only [List.getElem?_toArray, List.getElem?_cons_zero] at cr
    gi_wp2
    have y1 : (W.setCell ⟨w.heap.size + 1, 0, none⟩ (.bool false)).heap[w.heap.size + 1]? = some (.cells #[.bool false] 4 (0, 0)) := blk_put i2 0 _ rfl
    have hS1 : (W.setCell ⟨w.heap.size + 1, 0, none⟩ (.bool false)).heap[W0.heap.size]? = some (.deferred (some [])) := (Below.heap_setCell _ _ _ _ (by simp; omega)).trans hD
    have hBf := below_set (j := 0) (v := .bool false) i3 (g := w.heap.size + 1) (by omega)
    have hsz2 : W0.heap.size ≤ (W.setCell ⟨w.heap.size + 1, 0, none⟩ (.bool false)).heap.size := by simpa [World.setCell] using i4
    generalize W.setCell ⟨w.heap.size + 1, 0, none⟩ (.bool false) = W6 at *
    refine ⟨by simp, .inl ⟨_, _, rfl, run_takeDeferred hS1, ?_⟩⟩
    have z1 := blk_cell ((World.putObj_heap_other (by omega)).trans y1 : (W6.putObj W0.heap.size (.deferred none)).heap[w.heap.size + 1]? = _) 0
    simp only [List.getElem?_toArray, List.getElem?_cons_zero] at z1
    refine ⟨.bool false, ?_, ?_, ?_⟩
    · simp [results, Try.results37, go_sem, z1]
    · have : ¬ k ∈ xs := fun hm => by
        obtain ⟨j, hj, e⟩ := List.mem_iff_getElem.1 hm
        exact I1.out j hj (by simpa [List.getD_eq_getElem?_getD, hj] using e)
      rw [HXS.out, decide_eq_false this]
    · exact (Turns.putObj (fun k => k = W0.heap.size) W6 W0.heap.size (.deferred none) rfl).below hBf hBf.size (fun k hk => by omega)
  case stop =>
    rintro c' i W hi' ⟨rfl, hm, i2, i3, i4⟩ hD
    gi_wp2
    refine ⟨by simp, .inl ⟨_, _, rfl, run_takeDeferred hD, ?_⟩⟩
    have z1 := blk_cell ((World.putObj_heap_other (by omega)).trans i2 : (W.putObj W0.heap.size (.deferred none)).heap[w.heap.size + 1]? = _) 0
    simp only [List.getElem?_toArray, List.getElem?_cons_zero] at z1
    refine ⟨.bool true, ?_, ?_, ?_⟩
    · simp [results, Try.results37, go_sem, z1]
    · rw [HXS.out, decide_eq_true hm]
    · exact (Turns.putObj (fun k => k = W0.heap.size) W W0.heap.size (.deferred none) rfl).below i3 i3.size (fun k hk => by omega)
theorem info_int2 : (Try.prog.info? 3).map (fun i => (i.zero, i.size, i.bytes)) = some (some (.int .i64 0), (Kd.int .i64).sz, 8) := by kernel_rfl
def belowTo (l0 : List S48) (l3 : List S42) (k : Int) (n : Nat) : List Int :=
  ((List.range n).filter fun (i : Nat) => decide (k ∈ upL l0 17 (rd_T42 l3 (i : Int)).f1)).map fun (i : Nat) => (i : Int)
theorem belowTo_succ (l0 : List S48) (l3 : List S42) (k : Int) (n : Nat) : belowTo l0 l3 k (n + 1) = belowTo l0 l3 k n ++ (if decide (k ∈ upL l0 17 (rd_T42 l3 (n : Int)).f1) = true then [(n : Int)] else []) := by
  unfold belowTo
  rw [List.range_succ, List.filter_append, List.map_append]
  congr 1
  by_cases h : k ∈ upL l0 17 (rd_T42 l3 (n : Int)).f1 <;> simp [h]
theorem belowTo_len (l0 : List S48) (l3 : List S42) (k : Int) (n : Nat) : (belowTo l0 l3 k n).length ≤ n := by
  unfold belowTo
  rw [List.length_map]
  have := List.length_filter_le (fun (i : Nat) => decide (k ∈ upL l0 17 (rd_T42 l3 (i : Int)).f1)) (List.range n)
  simpa using this
set_option maxRecDepth 100000 in
set_option maxHeartbeats 2000000 in
theorem where_calls (A0 A1 A2 A3 A4 : Option Addr) (c0 c1 c2 c3 c4 n1 n2 n3 n4 : Nat) (l0 : List S48) (l3 : List S42) (k : Int) (A : Option Addr) (c : Nat) (w : World) (bs bc : Nat)
    (hs : w.heap[bs]? = some (.cells #[.slice A0 l0.length c0, .slice A1 n1 c1, .slice A2 n2 c2, .slice A3 n3 c3, .slice A4 n4 c4] 28 (0, 0))) (hk : w.heap[bc]? = some (.cells #[.int .i64 k] 3 (0, 0)))
    (hC : Kd.C k48 w A0 l0.length l0) (hG : Kd.C k42 w A l3.length l3) (hU : UpFine l0) (h16 : l0.length ≤ 16) (h3 : l3.length ≤ 16)
    (hx : ∀ a : Int, 0 ≤ a → a < l3.length → 0 ≤ (rd_T42 l3 a).f1 ∧ (rd_T42 l3 a).f1 < l0.length) :
    Calls Try.prog 36 #[.slice A l3.length c, .func (.func 37) #[] #[.pointer (some ⟨bs, 0, none⟩), .pointer (some ⟨bc, 0, none⟩)]] w fun e w' =>
      ∃ v, e = .returned v ∧ Kd.R (Kd.int .i64) 3 w' w.heap.size (fun _ => True) v (belowTo l0 l3 k l3.length) ∧ Below w.heap.size w w' := by
  have hbs : bs < w.heap.size := (Array.getElem?_eq_some_iff.1 hs).1
  have hbc : bc < w.heap.size := (Array.getElem?_eq_some_iff.1 hk).1
  have HU := Lib.hid hU
  have HXX := Lib.hid (And.intro hs (And.intro hk hx))
  clear hU hs hk hx
  go_enter Try.func36, Try.ntmps36
  go_wp2_with fail
  go_loopw [5, 10] (fun v i wr => ∃ j : Nat, j ≤ l3.length ∧ i = .int .i64 j ∧ Kd.R (Kd.int .i64) 3 wr w.heap.size (fun _ => True) v (belowTo l0 l3 k j) ∧ Below w.heap.size w wr) (fun _ i _ => l3.length - (intOf i).toNat)
  case atStart => exact ⟨0, by omega, rfl, Kd.R_nil _ _ _ _ _, Below.refl _ w⟩
  case round =>
    obtain ⟨j, hj, rfl, hv, hB⟩ := hrel
    by_cases hlt : j < l3.length
    · obtain ⟨ad, hAd, q0, q1, q2, q3, q4, q5, q6, q7⟩ := at_T42 hG (j : Int) (by omega) (by omega)
      have hag := blockG hG ad hAd (by omega)
      have eb : (ad.add ((j : Int).toNat * 8)).block = ad.block := by unfold Addr.add; split <;> rfl
      have tr : ∀ p u, p.block = ad.block → w.cell? p = some u → wr.cell? p = some u := fun p u hp hu => (hB.cell (p := p) (by rw [hp]; exact hag)).trans hu
      replace q0 := tr _ _ (by first | exact eb | (show (ad.add _).block = _; exact eb)) q0
      replace q1 := tr _ _ (by first | exact eb | (show (ad.add _).block = _; exact eb)) q1
      replace q2 := tr _ _ (by first | exact eb | (show (ad.add _).block = _; exact eb)) q2
      replace q3 := tr _ _ (by first | exact eb | (show (ad.add _).block = _; exact eb)) q3
      replace q4 := tr _ _ (by first | exact eb | (show (ad.add _).block = _; exact eb)) q4
      replace q5 := tr _ _ (by first | exact eb | (show (ad.add _).block = _; exact eb)) q5
      replace q6 := tr _ _ (by first | exact eb | (show (ad.add _).block = _; exact eb)) q6
      replace q7 := tr _ _ (by first | exact eb | (show (ad.add _).block = _; exact eb)) q7
      simp only [Int.toNat_natCast] at q0 q1 q2 q3 q4 q5 q6 q7
      subst hAd
      have hxj := HXX.out.2.2 (j : Int) (by omega) (by omega)
      have HS := Lib.hid (belowTo_succ l0 l3 k j)
      have hln := belowTo_len l0 l3 k j
      have HV := Lib.hid hv
      clear hv tr
      generalize rd_T42 l3 (j : Int) = x at *
      have hbw := Lib.hid (below_alloc hB (.cells #[.string x.f0, .int .i64 x.f1, .int .i64 x.f2, .int .i64 x.f3, .int .i64 x.f4, .int .i64 x.f5, .int .i64 x.f6, .int .i64 x.f7] 42))
      have HB := Lib.hid hB
      have hsz := hB.size
      clear hB
      go_wp2_with fail
      refine (below1_calls A0 A1 A2 A3 A4 c0 c1 c2 c3 c4 n1 n2 n3 n4 l0 x k _ bs bc ((hbw.out.block _ hbs).trans HXX.out.1) ((hbw.out.block _ hbc).trans HXX.out.2.1) (Kd.C_below hC hbw.out) HU.out h16 hxj.1 hxj.2).mono ?_
      rintro e w2 ⟨rfl, hb2⟩
      have HB2 := Lib.hid (below_step hbw.out hb2)
      have HV2 := Lib.hid (Kd.R_below (Kd.R_alloc HV.out (.cells #[.string x.f0, .int .i64 x.f1, .int .i64 x.f2, .int .i64 x.f3, .int .i64 x.f4, .int .i64 x.f5, .int .i64 x.f6, .int .i64 x.f7] 42)) hb2)
      clear hb2 hbw HB HV
      cases hd : decide (k ∈ upL l0 17 x.f1)
      · have HS2 := Lib.hid (show belowTo l0 l3 k (j + 1) = belowTo l0 l3 k j by rw [HS.out, hd]; simp)
        clear HS hd
        go_wp2_with fail
        go_roundw
        case rel => exact ⟨j + 1, by omega, by go_num, by rw [HS2.out]; exact HV2.out, HB2.out⟩
        case measure => simp [intOf]; omega
      · have HS2 := Lib.hid (show belowTo l0 l3 k (j + 1) = belowTo l0 l3 k j ++ [(j : Int)] by rw [HS.out, hd]; rfl)
        clear HS hd
        have hz2 := HB2.out.size
        go_wp2_with ((with_reducible refine gate_builtin (b := .append) (xs := #[.tmp 18, .tmp 20]) rfl ?_); at_builtin; refine Kd.R_append (Kd.int .i64) (w0 := w) w.heap.size rfl (.tmp 18) (.tmp 20) 29 3 (.int .i64 0) 8 rfl Try.underlying29 info_int2 rfl (by decide) (by omega) _ (belowTo l0 l3 k j) (j : Int) [.int .i64 (j : Int)] (fun _ => True) (fun _ => False) rfl rfl rfl (fun _ hk => hk.elim) (fun _ _ => trivial) HV2.out HB2.out hz2 (by omega) ?_; intro v1 w7 ho hb hg hat; have HO := Lib.hid (And.intro ho hb); clear ho hb hg hat)
        go_roundw
        case rel => exact ⟨j + 1, by omega, by go_num, by rw [HS2.out]; exact HO.out.1, HO.out.2⟩
        case measure => simp [intOf]; omega
    · obtain rfl : j = l3.length := by omega
      have HV := Lib.hid (And.intro hv hB)
      clear hv hB
      go_wp2_with fail
      go_ret
      exact ⟨_, rfl, HV.out.1, HV.out.2⟩
def tree_Below.f (l0_0 : List (S48)) (l0_1 : List (S62)) (l0_2 : List (S84)) (l0_3 : List (S42)) (l0_4 : List (S87)) (a1 : Int) : Option (List Int × Int) := if 0 ≤ a1 ∧ a1 < l0_0.length then (site_Valid.f l0_0 l0_1 l0_2 l0_3 l0_4).bind fun v => some (if v then (belowL l0_0 l0_3 a1, 0) else ([], 1)) else some ([], 1)
set_option maxHeartbeats 1000000 in
theorem tree_Below.calls (A0_0 : Option Addr) (c0_0 : Nat) (l0_0 : List (S48)) (A0_1 : Option Addr) (c0_1 : Nat) (l0_1 : List (S62)) (A0_2 : Option Addr) (c0_2 : Nat) (l0_2 : List (S84)) (A0_3 : Option Addr) (c0_3 : Nat) (l0_3 : List (S42)) (A0_4 : Option Addr) (c0_4 : Nat) (l0_4 : List (S87)) (a1 : Int) (r1 : List (Int)) (r2 : Int) (w : World) (hr0_0 : Kd.C k48 w A0_0 l0_0.length l0_0) (hc0_0 : l0_0.length ≤ c0_0) (hr0_1 : Kd.C k62 w A0_1 l0_1.length l0_1) (hc0_1 : l0_1.length ≤ c0_1) (hr0_2 : Kd.C k84 w A0_2 l0_2.length l0_2) (hc0_2 : l0_2.length ≤ c0_2) (hr0_3 : Kd.C k42 w A0_3 l0_3.length l0_3) (hc0_3 : l0_3.length ≤ c0_3) (hr0_4 : Kd.C k87 w A0_4 l0_4.length l0_4) (hc0_4 : l0_4.length ≤ c0_4) (h : tree_Below.f l0_0 l0_1 l0_2 l0_3 l0_4 a1 = some (r1, r2)) :
    Calls Try.prog 16 #[.agg #[.slice A0_0 l0_0.length c0_0, .slice A0_1 l0_1.length c0_1, .slice A0_2 l0_2.length c0_2, .slice A0_3 l0_3.length c0_3, .slice A0_4 l0_4.length c0_4], .int .i64 a1] w fun e w' => ∃ v0_ : Value, e = .returned (.tuple #[v0_, .int .i64 r2]) ∧ Kd.R (Kd.int .i64) 3 w' w.heap.size (fun _ => True) v0_ r1 ∧ Below w.heap.size w w' := by
  unfold tree_Below.f at h
  have hmf : ∀ (fn : Fn) (first cap : Array Value) (w : World), (Instr.makeFunc fn first cap).run Try.prog w = .ok (.func fn first cap) w := fun _ _ _ _ => rfl
  have hii : tree_isIndex.f a1 l0_0.length = some (decide (0 ≤ a1) && decide (a1 < l0_0.length)) := by
    unfold tree_isIndex.f
    by_cases z : a1 ≥ 0
    · rw [if_pos z, decide_eq_true (show 0 ≤ a1 from z), Bool.true_and]
    · rw [if_neg z, decide_eq_false (show ¬ 0 ≤ a1 from z), Bool.false_and]
  have HB := Lib.hid (below_alloc (below_alloc (Below.refl _ w) (.cells #[.slice A0_0 l0_0.length c0_0, .slice A0_1 l0_1.length c0_1, .slice A0_2 l0_2.length c0_2, .slice A0_3 l0_3.length c0_3, .slice A0_4 l0_4.length c0_4] 28)) (.cells #[.int .i64 a1] 3))
  by_cases hi : 0 ≤ a1 ∧ a1 < l0_0.length
  · rw [if_pos hi] at h
    rw [decide_eq_true hi.1, decide_eq_true hi.2] at hii
    have HI := Lib.hid hii
    clear hii
    obtain ⟨v, hv, h⟩ := Option.bind_eq_some_iff.1 h
    have HVAL := Lib.hid hv
    cases v
    · simp only [Bool.false_eq_true, if_false, Option.some.injEq, Prod.mk.injEq] at h
      obtain ⟨rfl, rfl⟩ := h
      clear hv
      go_enter Try.func16, Try.ntmps16
      go_wp2_with fail
      refine (tree_isIndex.calls _ _ _ _ HI.out).mono ?_
      rintro e w1 ⟨rfl, q1, rfl⟩
      go_wp2_with fail
      refine (site_Valid.calls A0_0 c0_0 l0_0 A0_1 c0_1 l0_1 A0_2 c0_2 l0_2 A0_3 c0_3 l0_3 A0_4 c0_4 l0_4 false _ (Kd.C_below hr0_0 (pw_below_drewN HB.out q1)) hc0_0 (Kd.C_below hr0_1 (pw_below_drewN HB.out q1)) hc0_1 (Kd.C_below hr0_2 (pw_below_drewN HB.out q1)) hc0_2 (Kd.C_below hr0_3 (pw_below_drewN HB.out q1)) hc0_3 (Kd.C_below hr0_4 (pw_below_drewN HB.out q1)) hc0_4 HVAL.out).mono ?_
      rintro e w2 ⟨rfl, hb2⟩
      have HB2 := Lib.hid (below_step (pw_below_drewN HB.out q1) hb2)
      clear hb2
      go_wp2_with fail
      exact bodyPost_ret (v := .tuple #[.slice none 0 0, .int .i64 1]) (by simp [results, Try.results16, go_sem]) rfl ⟨_, rfl, Kd.R_nil _ _ _ _ _, HB2.out⟩
    · simp only [if_true, Option.some.injEq, Prod.mk.injEq] at h
      obtain ⟨rfl, rfl⟩ := h
      have hF := valid_fine (site_Valid.some hv)
      have HF := Lib.hid hF
      clear hv hF
      go_enter Try.func16, Try.ntmps16
      go_wp2_with fail
      refine (tree_isIndex.calls _ _ _ _ HI.out).mono ?_
      rintro e w1 ⟨rfl, q1, rfl⟩
      go_wp2_with fail
      refine (site_Valid.calls A0_0 c0_0 l0_0 A0_1 c0_1 l0_1 A0_2 c0_2 l0_2 A0_3 c0_3 l0_3 A0_4 c0_4 l0_4 true _ (Kd.C_below hr0_0 (pw_below_drewN HB.out q1)) hc0_0 (Kd.C_below hr0_1 (pw_below_drewN HB.out q1)) hc0_1 (Kd.C_below hr0_2 (pw_below_drewN HB.out q1)) hc0_2 (Kd.C_below hr0_3 (pw_below_drewN HB.out q1)) hc0_3 (Kd.C_below hr0_4 (pw_below_drewN HB.out q1)) hc0_4 HVAL.out).mono ?_
      rintro e w2 ⟨rfl, hb2⟩
      have hB2 := below_step (pw_below_drewN HB.out q1) hb2
      have hbx : w2.heap[w.heap.size]? = some (.cells #[.slice A0_0 l0_0.length c0_0, .slice A0_1 l0_1.length c0_1, .slice A0_2 l0_2.length c0_2, .slice A0_3 l0_3.length c0_3, .slice A0_4 l0_4.length c0_4] 28 (0, 0)) := (hb2.block _ (by simp; omega)).trans ((Below.heap_alloc _ _ _ (by simp)).trans (heap_alloc_new w _))
      have hby : w2.heap[w.heap.size + 1]? = some (.cells #[.int .i64 a1] 3 (0, 0)) := (hb2.block _ (by simp)).trans (by simpa using heap_alloc_new (w.alloc (.cells #[.slice A0_0 l0_0.length c0_0, .slice A0_1 l0_1.length c0_1, .slice A0_2 l0_2.length c0_2, .slice A0_3 l0_3.length c0_3, .slice A0_4 l0_4.length c0_4] 28)) (.cells #[.int .i64 a1] 3))
      have b3 := blk_cell hbx 3
      simp only [List.getElem?_toArray, List.getElem?_cons_zero, List.getElem?_cons_succ] at b3
      have HX := Lib.hid (And.intro hB2 (And.intro hbx hby))
      clear hB2 hbx hby hb2 HI HVAL
      go_wp2_with fail
      refine (where_calls _ _ _ _ _ _ _ _ _ _ _ _ _ _ l0_0 l0_3 a1 A0_3 c0_3 _ w.heap.size (w.heap.size + 1) HX.out.2.1 HX.out.2.2 (Kd.C_below hr0_0 HX.out.1) (Kd.C_below hr0_3 HX.out.1) HF.out.up HF.out.n0.2 HF.out.n3 (fun a h0 h1 => HF.out.at_ h0 h1)).mono ?_
      rintro e w3 ⟨v, rfl, hv, hb3⟩
      have HV := Lib.hid (And.intro hv hb3)
      clear hv hb3
      go_wp2_with fail
      exact bodyPost_ret (v := .tuple #[v, .int .i64 0]) (by simp [results, Try.results16, go_sem]) rfl ⟨v, rfl, Kd.R_lower HV.out.1 HX.out.1.size, below_step HX.out.1 HV.out.2⟩
  · rw [if_neg hi] at h
    simp only [Option.some.injEq, Prod.mk.injEq] at h
    obtain ⟨rfl, rfl⟩ := h
    have hfa : (decide (0 ≤ a1) && decide (a1 < (l0_0.length : Int))) = false := by
      by_cases z : 0 ≤ a1
      · rw [decide_eq_true z, decide_eq_false (fun z' => hi ⟨z, z'⟩)]; rfl
      · rw [decide_eq_false z]; rfl
    rw [hfa] at hii
    have HI := Lib.hid hii
    clear hii hfa
    go_enter Try.func16, Try.ntmps16
    go_wp2_with fail
    refine (tree_isIndex.calls _ _ _ _ HI.out).mono ?_
    rintro e w1 ⟨rfl, q1, rfl⟩
    go_wp2_with fail
    exact bodyPost_ret (v := .tuple #[.slice none 0 0, .int .i64 1]) (by simp [results, Try.results16, go_sem]) rfl ⟨_, rfl, Kd.R_nil _ _ _ _ _, pw_below_drewN HB.out q1⟩
end Go.Proofs.Ytpdmnineampimaa.Q
