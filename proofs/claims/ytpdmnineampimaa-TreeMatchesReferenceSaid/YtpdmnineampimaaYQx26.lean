import Derived.Test.YtpdmnineampimaaYe
import Derived.Test.YtpdmnineampimaaYQx11
import Derived.Test.YtpdmnineampimaaYQx24
import Derived.Test.YtpdmnineampimaaYQx25
set_option linter.unusedVariables false
set_option linter.unusedSimpArgs false
namespace Go.Proofs.Ytpdmnineampimaa.Q
open Go.RowKit Go.Proofs.YtpdmnineampimaaW.PrintWords Go.Proofs.YtpdmnineampimaaW.PrintLast Go.Proofs.YtpdmnineampimaaW.PrintMore
attribute [local go_sem] max2_int min2_int max_two min_two max_three min_three max_four min_four
attribute [local go_sem] Oper.semAt_some
theorem wpListIn_append_at {F : Fence} {n : Nat} {P : Program} (w : World) {ops : Array Oper} {rest : List Oper} {o : Oper} {a : Act} {Q : Exit → Act → World → Prop}
    (hg : o.guard = none) (s x : Operand) (t : TypeId) (hop : o.op = Op.call { callee := Callee.builtin Builtin.append, args := #[s, x], argTypes := #[t, t] })
    (base : Nat) (e : TypeId) (i : TypeInfo) (z : Value) (size bytes : Nat) (h1 : P.underlying t = some (.slice e)) (h2 : P.info? e = some i) (h3 : i.zero = some z) (h4 : i.size = size) (h5 : i.bytes = bytes) (h6 : z.cells.size = size) (h7 : 0 < size)
    (v : Value) (k : Nat) (xs : List Value) (hs : a.eval s = v) (hown : w.ownsRow base e size v k xs) (ad : Addr) (m c : Nat) (news : List Value) (hx : a.eval x = .slice (some ad) m c) (hn : news.length = m * size)
    (hc : ∀ j u, news[j]? = some u → w.cell? (ad.add j) = some u) (h1c : ∀ u ∈ news, u.oneCell' = true) (b1 : k + m ≤ maxLen) (b2 : (k + m) * bytes ≤ 140737488355328) (b3 : base ≤ w.heap.size)
    (hK : ∀ v' w', w'.ownsRow base e size v' (k + m) (xs ++ news) → w.grownBy w' v.ownBlock → (v'.ownBlock = v.ownBlock ∨ v'.ownBlock = some w.heap.size) → wpListIn F n P ops Q rest (a.put o.dst v') w') :
    wpListIn F n P ops Q (o :: rest) a w := by
  refine wpListIn_plain hg fun K hK' => ?_
  obtain ⟨v', w', hrun, r1, r2, _, r3⟩ := run_append_own_at (P := P) w base t o.type e i z size bytes h1 h2 h3 h4 h5 h6 h7 v k xs hown ad m c news hn hc h1c b1 b2 b3
  unfold Oper.wpIn
  refine ⟨?_, ?_⟩
  · simp [Oper.about, hop, resolve, Target.leads, Sem.run_pure]
  · rw [Oper.semAt_plain F _ _ (by rw [hop]; intro c hc'; cases hc')]
    simp [execOp, hop, resolve, invoke, builtin, hs, hx, hrun, Result.andThen]
    exact hK' _ _ (hK v' w' r1 r2 r3)
theorem info_int_ : (Try.prog.info? 3).map (fun i => (i.zero, i.size, i.bytes)) = some (some (.int .i64 0), 1, 8) := by kernel_rfl
set_option maxRecDepth 100000 in
set_option maxHeartbeats 1000000 in
theorem appendSeq_int {gf : Nat} {lb : Array Value} (xs : List Int) (R : Nat → Prop) (w : World) (eg : ∀ args w, (callFunc gf args).run Try.prog w = .ok (.enter gf args) w) (hR : ∀ k, R k → k < w.heap.size)
    (hseq : IterC Try.prog gf lb (fun x : Int => #[.int .i64 x]) xs (fun _ => False) R w) (hl : xs.length ≤ 1000) :
    Calls Try.prog 44 #[.slice none 0 0, .func (.func gf) #[] lb] w fun e w' => ∃ v, e = .returned v ∧ Kd.R (Kd.int .i64) 3 w' w.heap.size (fun _ => True) v xs ∧ Below w.heap.size w w' := by
  refine (callsIn_wide (n := 0)).1 ?_
  refine callsIn_of_wp_marks Try.func44 rfl trivial ?_ rfl
  simp only [Try.ntmps44, List.size_toArray, List.length_cons, List.length_nil, Nat.reduceAdd, Nat.reduceSub, Array.replicate_succ, Array.replicate_zero, List.push_toArray, List.append_toArray, List.nil_append, List.cons_append]
  gi_wp2
  obtain ⟨W0, hW0⟩ : ∃ W0, w.alloc (.cells #[.slice none 0 0] 29) = W0 := ⟨_, rfl⟩
  have hsz : w.heap.size + 1 ≤ W0.heap.size := by rw [← hW0]; simp
  have hB0 : Below w.heap.size w W0 := by rw [← hW0]; exact below_alloc (Below.refl _ w) _
  have hbx : W0.heap[w.heap.size]? = some (.cells #[.slice none 0 0] 29 (0, 0)) := by rw [← hW0]; exact heap_alloc_new _ _
  have hT0 : Turns (fun _ => False) w W0 := by rw [← hW0]; exact Turns.alloc _ _ _
  rw [hW0]
  clear hW0
  obtain ⟨i0, hi, hz0, hz1, hz2⟩ := info_parts info_int_
  have nT : ∀ k, k ≠ W0.heap.size → k ≠ W0.heap.size + 1 → ¬ ((False ∧ k < W0.heap.size) ∨ k = W0.heap.size ∨ k = W0.heap.size + 1) := fun k h1 h2 h => by
    rcases h with ⟨h, _⟩ | h | h
    · exact h
    · exact h1 h
    · exact h2 h
  have hTb : ∀ {W W' : World}, Turns (fun k => (False ∧ k < W0.heap.size) ∨ k = W0.heap.size ∨ k = W0.heap.size + 1) W W' → Below w.heap.size w W → w.heap.size ≤ W.heap.size → Below w.heap.size w W' := fun ht hb hs => ht.below hb hs (fun k hk => by
    rcases hk with ⟨h, _⟩ | h | h
    · exact h.elim
    · omega
    · omega)
  refine wp_rangeFunc_iter (g := .tmp 6) (ps := #[7]) (a := ⟨?T0, []⟩) (gf := gf) (lb := lb) ?hg eg
    (T := fun _ => False) (R := R) (fun k hk => by have := hR k hk; omega) (hseq.later hT0) (fun _ => rfl)
    (fun i W => (∃ v, W.heap[w.heap.size]? = some (.cells #[v] 29 (0, 0)) ∧ Kd.R (Kd.int .i64) 3 W w.heap.size (fun k => k ≠ W0.heap.size ∧ k ≠ W0.heap.size + 1 ∧ k ≠ w.heap.size) v (xs.take i)) ∧ Below w.heap.size w W ∧ W0.heap.size ≤ W.heap.size)
    (fun c i W => False)
    (fun i W W' hI ht => by
      obtain ⟨⟨v, i1, i2⟩, i3, i4⟩ := hI
      exact ⟨⟨v, (ht.block _ (by omega) (nT _ (by omega) (by omega))).trans i1, Kd.R_step i2 (fun k ho hk => ht.block k hk (nT _ ho.1 ho.2.1))⟩, hTb ht i3 i3.size, by have := ht.size; omega⟩)
    (fun c i W W' hI ht => hI)
    ⟨⟨_, hbx, Kd.R_nil _ _ _ _ _⟩, hB0, Nat.le_refl _⟩
    (fun i a1 W => a1 = ⟨(Array.setIfInBounds (Array.setIfInBounds ?T0 7 (.int .i64 (xs.getD i 0))) 5 (.int .i64 (xs.getD i 0))), []⟩ ∧ (∃ v, W.heap[w.heap.size]? = some (.cells #[v] 29 (0, 0)) ∧ Kd.R (Kd.int .i64) 3 W w.heap.size (fun k => k ≠ W0.heap.size ∧ k ≠ W0.heap.size + 1 ∧ k ≠ w.heap.size) v (xs.take i)) ∧ Below w.heap.size w W ∧ W0.heap.size ≤ W.heap.size)
    (fun i a1 W W' hA ht => by
      obtain ⟨i0, ⟨v, i1, i2⟩, i3, i4⟩ := hA
      exact ⟨i0, ⟨v, (ht.block _ (by omega) (by omega)).trans i1, Kd.R_step i2 (fun k ho hk => ht.block k hk (by omega))⟩, ht.below i3 i3.size (fun k hk => by omega), by have := ht.size; omega⟩)
    ?assign ?body ?done ?stop
  case hg => rfl
  case assign =>
    intro ll i hi' W hI hsz' K hK
    have e : xs[i] = xs.getD i 0 := by simp [List.getD_eq_getElem?_getD, hi']
    rw [e]
    generalize xs.getD i 0 = x at *
    gi_wp2
    exact hK _ _ ⟨rfl, hI⟩ (Turns.refl _ _)
  case body =>
    rintro ll i hi' a1 W ⟨rfl, ⟨v, i1, i2⟩, i3, i4⟩ hsz'
    have hT : xs.take (i + 1) = xs.take i ++ [xs.getD i 0] := by
      rw [List.take_succ_eq_append_getElem hi']; simp [List.getD_eq_getElem?_getD, hi']
    have HT := Lib.hid hT
    clear hT
    have hlen : (xs.take i).length ≤ 1000 := by rw [List.length_take]; omega
    simp only [List.setIfInBounds_toArray, List.set_cons_zero, List.set_cons_succ]
    generalize xs.getD i 0 = x at *
    generalize xs.take i = ys at *
    have cb := blk_cell i1 0
    have fb := blk_frozen i1 0
    simp only [List.getElem?_toArray, List.getElem?_cons_zero] at cb
    have hown := Kd.own_of_R i2
    have hok := i2.1
    have hbase := i3.size
    have hown1 := hown.kept (World.grownBy_alloc W (.cells #[.int .i64 x] 3) none) (by cases v.ownBlock <;> simp)
    have hle : w.heap.size < W.heap.size := by omega
    gi_wp2_with (gi_at_builtin; refine wpListIn_append_at _ rfl _ _ 29 rfl w.heap.size 3 i0 (.int .i64 0) 1 8 Try.underlying29 hi hz0 hz1 hz2 rfl (by decide) _ _ _ rfl hown1 ⟨W.heap.size, 0, none⟩ 1 1 [.int .i64 x] rfl rfl (cell_one_new _ _ _) (by simp [Value.oneCell']) (by unfold maxLen; omega) (by omega) (by simp; omega) ?_; intro v' w1 hown' hgrow0 hat; have hgrow : (W.alloc (.cells #[.int .i64 x] 3)).grownBy w1 v.ownBlock := hgrow0; clear hgrow0; have hb1 : w1.heap[w.heap.size]? = some (.cells #[v] 29 (0, 0)) := (hgrow.block _ (by simp; omega) (fun e => (hok _ e.symm).2.2 rfl)).trans ((Below.heap_alloc _ _ _ hle).trans i1); have cb1 := blk_cell hb1 0; have fb1 := blk_frozen hb1 0; simp only [List.getElem?_toArray, List.getElem?_cons_zero] at cb1; clear cb fb; obtain ⟨g', cap', rfl⟩ := ownsRow_succ hown')
    have hs1 := hgrow.size
    simp only [World.size_alloc] at hs1
    have hg' : g' ≠ W0.heap.size ∧ g' ≠ W0.heap.size + 1 ∧ g' ≠ w.heap.size := by
      rcases hat with e | e
      · exact hok g' (show v.ownBlock = some g' from (show (Value.slice (some ⟨g', 0, none⟩) (ys.length + 1) cap').ownBlock = v.ownBlock from e).symm.trans (by simp [Value.ownBlock]))
      · have : g' = W.heap.size + 1 := by simpa [Value.ownBlock] using e
        omega
    have hvb : ∀ k, v.ownBlock = some k → w.heap.size ≤ k := fun k hk => own_base hown k hk
    refine ⟨((Turns.alloc _ W _).trans ⟨hgrow.os, hgrow.tape, hgrow.output, hgrow.size, fun k hk hn => hgrow.block k hk (fun e => hn (fun h => ?_))⟩).trans (Turns.setCell _ _ ⟨w.heap.size, 0, none⟩ _ (fun h => ?_)), ⟨_, blk_put hb1 0 _ rfl, ?_⟩, ?_, ?_⟩
    · have h1 := hok k e.symm
      have h2 := hvb k e.symm
      rcases h with h | h | h
      · have := hR k h; omega
      · exact h1.1 h
      · exact h1.2.1 h
    · rcases h with h | h | h
      · have := hR _ h; exact Nat.lt_irrefl _ this
      · have : w.heap.size = W0.heap.size := h
        omega
      · have : w.heap.size = W0.heap.size + 1 := h
        omega
    · rw [HT.out]
      have hr : Kd.R (Kd.int .i64) 3 w1 w.heap.size (fun k => k ≠ W0.heap.size ∧ k ≠ W0.heap.size + 1 ∧ k ≠ w.heap.size) (.slice (some ⟨g', 0, none⟩) (ys.length + 1) cap') (ys ++ [x]) := by
        refine Kd.R_of_own ?_ (fun k hk => ?_)
        · rw [List.length_append, encs_append]
          exact hown'
        · have : g' = k := by simpa [Value.ownBlock] using hk
          subst this
          exact hg'
      exact Kd.R_step hr (fun k ho hk => Below.heap_setCell _ _ _ _ (fun e => ho.2.2 e))
    · exact below_set (((Below.refl _ w).trans i3).trans ⟨hgrow.os, hgrow.tape, hgrow.output, by omega, fun k hk => (hgrow.block k (by simp; omega) (fun e => by have := hvb k e.symm; omega)).trans (Below.heap_alloc _ _ _ (by omega))⟩) (Nat.le_refl _)
    · simp [World.setCell]; omega
  case done =>
    rintro W ⟨⟨v, i1, i2⟩, i3, i4⟩ hD
    have cb := blk_cell i1 0
    simp only [List.getElem?_toArray, List.getElem?_cons_zero] at cb
    rw [List.take_length] at i2
    gi_wp2
    refine ⟨by simp, .inl ⟨_, _, rfl, run_takeDeferred hD, ?_⟩⟩
    refine ⟨v, ?_, v, rfl, Kd.R_mono (Kd.R_step i2 (fun k ho hk => World.putObj_heap_other (fun e => ho.1 e))) (fun _ _ => trivial), ?_⟩
    · simp [results, Try.results44, go_sem]
    · exact (Turns.putObj (fun k => k = W0.heap.size) W W0.heap.size (.deferred none) rfl).below i3 i3.size (fun k hk => by omega)
  case stop =>
    rintro c' i W hi' h hD
    exact h.elim
theorem collect_int {gf : Nat} {lb : Array Value} (xs : List Int) (R : Nat → Prop) (w : World) (eg : ∀ args w, (callFunc gf args).run Try.prog w = .ok (.enter gf args) w) (hR : ∀ k, R k → k < w.heap.size)
    (hseq : IterC Try.prog gf lb (fun x : Int => #[.int .i64 x]) xs (fun _ => False) R w) (hl : xs.length ≤ 1000) :
    Calls Try.prog 28 #[.func (.func gf) #[] lb] w fun e w' => ∃ v, e = .returned v ∧ Kd.R (Kd.int .i64) 3 w' w.heap.size (fun _ => True) v xs ∧ Below w.heap.size w w' := by
  have HQ := Lib.hid hseq
  clear hseq
  go_enter Try.func28, Try.ntmps28
  go_wp2_with fail
  refine (appendSeq_int xs R w eg hR HQ.out hl).mono ?_
  rintro e w1 ⟨v, rfl, hv, hb⟩
  have HV := Lib.hid (And.intro hv hb)
  clear hv hb
  go_wp2_with fail
  go_ret
  exact ⟨v, rfl, HV.out.1, HV.out.2⟩
def tree_Path.f (l0_0 : List (S48)) (l0_1 : List (S62)) (l0_2 : List (S84)) (l0_3 : List (S42)) (l0_4 : List (S87)) (a1 : Int) : Option (List Int × Int) := if 0 ≤ a1 ∧ a1 < l0_3.length then (site_Valid.f l0_0 l0_1 l0_2 l0_3 l0_4).bind fun v => some (if v then (upL l0_0 17 (rd_T42 l0_3 a1).f1, 0) else ([], 1)) else some ([], 1)
set_option maxHeartbeats 1000000 in
theorem tree_Path.calls (A0_0 : Option Addr) (c0_0 : Nat) (l0_0 : List (S48)) (A0_1 : Option Addr) (c0_1 : Nat) (l0_1 : List (S62)) (A0_2 : Option Addr) (c0_2 : Nat) (l0_2 : List (S84)) (A0_3 : Option Addr) (c0_3 : Nat) (l0_3 : List (S42)) (A0_4 : Option Addr) (c0_4 : Nat) (l0_4 : List (S87)) (a1 : Int) (r1 : List (Int)) (r2 : Int) (w : World) (hr0_0 : Kd.C k48 w A0_0 l0_0.length l0_0) (hc0_0 : l0_0.length ≤ c0_0) (hr0_1 : Kd.C k62 w A0_1 l0_1.length l0_1) (hc0_1 : l0_1.length ≤ c0_1) (hr0_2 : Kd.C k84 w A0_2 l0_2.length l0_2) (hc0_2 : l0_2.length ≤ c0_2) (hr0_3 : Kd.C k42 w A0_3 l0_3.length l0_3) (hc0_3 : l0_3.length ≤ c0_3) (hr0_4 : Kd.C k87 w A0_4 l0_4.length l0_4) (hc0_4 : l0_4.length ≤ c0_4) (h : tree_Path.f l0_0 l0_1 l0_2 l0_3 l0_4 a1 = some (r1, r2)) :
    Calls Try.prog 12 #[.agg #[.slice A0_0 l0_0.length c0_0, .slice A0_1 l0_1.length c0_1, .slice A0_2 l0_2.length c0_2, .slice A0_3 l0_3.length c0_3, .slice A0_4 l0_4.length c0_4], .int .i64 a1] w fun e w' => ∃ v0_ : Value, e = .returned (.tuple #[v0_, .int .i64 r2]) ∧ Kd.R (Kd.int .i64) 3 w' w.heap.size (fun _ => True) v0_ r1 ∧ Below w.heap.size w w' := by
  unfold tree_Path.f at h
  have e1 : ∀ b : Bool, tree_isIndex.f a1 l0_3.length = some b → True := fun _ _ => trivial
  have hii : tree_isIndex.f a1 l0_3.length = some (decide (0 ≤ a1) && decide (a1 < l0_3.length)) := by
    unfold tree_isIndex.f
    by_cases z : a1 ≥ 0
    · rw [if_pos z, decide_eq_true (show 0 ≤ a1 from z), Bool.true_and]
    · rw [if_neg z, decide_eq_false (show ¬ 0 ≤ a1 from z), Bool.false_and]
  clear e1
  have HB := Lib.hid (below_alloc (Below.refl _ w) (.cells #[.slice A0_0 l0_0.length c0_0, .slice A0_1 l0_1.length c0_1, .slice A0_2 l0_2.length c0_2, .slice A0_3 l0_3.length c0_3, .slice A0_4 l0_4.length c0_4] 28))
  by_cases hi : 0 ≤ a1 ∧ a1 < l0_3.length
  · rw [if_pos hi] at h
    rw [decide_eq_true hi.1, decide_eq_true hi.2] at hii
    have HI := Lib.hid hii
    clear hii
    obtain ⟨v, hv, h⟩ := Option.bind_eq_some_iff.1 h
    have HVAL := Lib.hid hv
    cases v
    · simp only [Bool.false_eq_true, if_false, Option.some.injEq, Prod.mk.injEq] at h
      obtain ⟨rfl, rfl⟩ := h
      clear hv
      go_enter Try.func12, Try.ntmps12
      go_wp2_with fail
      refine (tree_isIndex.calls _ _ _ _ HI.out).mono ?_
      rintro e w1 ⟨rfl, q1, rfl⟩
      go_wp2_with fail
      refine (site_Valid.calls A0_0 c0_0 l0_0 A0_1 c0_1 l0_1 A0_2 c0_2 l0_2 A0_3 c0_3 l0_3 A0_4 c0_4 l0_4 false _ (Kd.C_below hr0_0 (pw_below_drewN HB.out q1)) hc0_0 (Kd.C_below hr0_1 (pw_below_drewN HB.out q1)) hc0_1 (Kd.C_below hr0_2 (pw_below_drewN HB.out q1)) hc0_2 (Kd.C_below hr0_3 (pw_below_drewN HB.out q1)) hc0_3 (Kd.C_below hr0_4 (pw_below_drewN HB.out q1)) hc0_4 HVAL.out).mono ?_
      rintro e w2 ⟨rfl, hb2⟩
      have HB2 := Lib.hid (below_step (pw_below_drewN HB.out q1) hb2)
      clear hb2
      go_wp2_with fail
      exact bodyPost_ret (v := .tuple #[.slice none 0 0, .int .i64 1]) (by simp [results, Try.results12, go_sem]) rfl ⟨_, rfl, Kd.R_nil _ _ _ _ _, HB2.out⟩
    · simp only [if_true, Option.some.injEq, Prod.mk.injEq] at h
      obtain ⟨rfl, rfl⟩ := h
      have hF := valid_fine (site_Valid.some hv)
      have hat := hF.at_ hi.1 hi.2
      have hup := Lib.hid hF.up
      have h16 := hF.n0.2
      have hlen := upL_len l0_0 17 (rd_T42 l0_3 a1).f1
      clear hv hF
      go_enter Try.func12, Try.ntmps12
      go_wp2_with fail
      refine (tree_isIndex.calls _ _ _ _ HI.out).mono ?_
      rintro e w1 ⟨rfl, q1, rfl⟩
      go_wp2_with fail
      refine (site_Valid.calls A0_0 c0_0 l0_0 A0_1 c0_1 l0_1 A0_2 c0_2 l0_2 A0_3 c0_3 l0_3 A0_4 c0_4 l0_4 true _ (Kd.C_below hr0_0 (pw_below_drewN HB.out q1)) hc0_0 (Kd.C_below hr0_1 (pw_below_drewN HB.out q1)) hc0_1 (Kd.C_below hr0_2 (pw_below_drewN HB.out q1)) hc0_2 (Kd.C_below hr0_3 (pw_below_drewN HB.out q1)) hc0_3 (Kd.C_below hr0_4 (pw_below_drewN HB.out q1)) hc0_4 HVAL.out).mono ?_
      rintro e w2 ⟨rfl, hb2⟩
      have hB2 := below_step (pw_below_drewN HB.out q1) hb2
      have hbx : w2.heap[w.heap.size]? = some (.cells #[.slice A0_0 l0_0.length c0_0, .slice A0_1 l0_1.length c0_1, .slice A0_2 l0_2.length c0_2, .slice A0_3 l0_3.length c0_3, .slice A0_4 l0_4.length c0_4] 28 (0, 0)) := (hb2.block _ (by simp)).trans (heap_alloc_new w _)
      have hsz := hb2.size
      replace hsz : w.heap.size + 1 ≤ w2.heap.size := by simpa using hsz
      obtain ⟨ad, hAd, q0, q1', q2, q3, q4, q5, q6, q7⟩ := at_T42 hr0_3 a1 hi.1 hi.2
      have hag := blockG hr0_3 ad hAd (by omega)
      have eb : (ad.add (a1.toNat * 8)).block = ad.block := by unfold Addr.add; split <;> rfl
      have x1 := (hB2.cell (p := ⟨(ad.add (a1.toNat * 8)).block, (ad.add (a1.toNat * 8)).off + 1, none⟩) (by rw [eb]; exact hag)).trans q1'
      clear q0 q1' q2 q3 q4 q5 q6 q7 hb2
      have b0 := blk_cell hbx 0
      have b1 := blk_cell hbx 1
      have b2 := blk_cell hbx 2
      have b3 := blk_cell hbx 3
      have b4 := blk_cell hbx 4
      simp only [List.getElem?_toArray, List.getElem?_cons_zero, List.getElem?_cons_succ] at b0 b1 b2 b3 b4
      have HX := Lib.hid (And.intro hB2 (And.intro hbx hAd))
      have i0 := hi.1
      have i1 := hi.2
      subst hAd
      clear hB2 hbx HI HVAL
      go_wp2_with fail
      obtain ⟨hB2, hbx, hAd⟩ := HX.out
      have HX2 := Lib.hid (And.intro hB2 hbx)
      clear hB2 hbx hAd HX
      have hlt1 : (ad.add (a1.toNat * 8)).block < w2.heap.size := by rw [eb]; omega
      have hlt0 : w.heap.size < w2.heap.size := by omega
      generalize hat_ : (rd_T42 l0_3 a1).f1 = at_ at *
      have HAT := Lib.hid hat_
      clear hat_ hsz eb
      go_region_held3 (fun w' => w'.cell? ⟨w.heap.size, 0, none⟩ = some (.slice A0_0 l0_0.length c0_0) ∧ w'.cell? ⟨w.heap.size, 1, none⟩ = some (.slice A0_1 l0_1.length c0_1) ∧ w'.cell? ⟨w.heap.size, 2, none⟩ = some (.slice A0_2 l0_2.length c0_2) ∧ w'.cell? ⟨w.heap.size, 3, none⟩ = some (.slice (some ad) l0_3.length c0_3) ∧ w'.cell? ⟨w.heap.size, 4, none⟩ = some (.slice A0_4 l0_4.length c0_4) ∧ w'.cell? ⟨(ad.add (a1.toNat * 8)).block, (ad.add (a1.toNat * 8)).off + 1, none⟩ = some (.int .i64 at_))
        (first
          | go_keep
          | exact ⟨(hb5.cell (p := ⟨w.heap.size, 0, none⟩) hlt0).trans b0, (hb5.cell (p := ⟨w.heap.size, 1, none⟩) hlt0).trans b1, (hb5.cell (p := ⟨w.heap.size, 2, none⟩) hlt0).trans b2, (hb5.cell (p := ⟨w.heap.size, 3, none⟩) hlt0).trans b3, (hb5.cell (p := ⟨w.heap.size, 4, none⟩) hlt0).trans b4, (hb5.cell (p := ⟨(ad.add (a1.toNat * 8)).block, (ad.add (a1.toNat * 8)).off + 1, none⟩) hlt1).trans x1⟩)
        (first
          | (go_at_call 29; refine (upward_calls _ _ _ _ _ _ _ _ _ _ _ _ _ _ _ _ _).mono ?_; rintro e w3 ⟨rfl, rfl⟩)
          | (go_at_call 28; refine (collect_int (upL l0_0 17 at_) (fun k => k < w.heap.size ∨ k = w2.heap.size ∨ k = w2.heap.size + 1) _ (enters_of Try.func45 (by kernel_rfl) rfl) (fun k hk => by simp; omega)
              (upward_iter _ _ _ _ _ _ _ _ _ _ _ _ _ _ l0_0 at_ _ w2.heap.size (w2.heap.size + 1) w.heap.size (by simp; omega) (by simp) (by simpa using (Below.heap_alloc _ _ _ (by simp)).trans (heap_alloc_new w2.drew _)) (by simpa using heap_alloc_new (w2.drew.alloc _) (.cells #[.int .i64 at_] 3)) (by simp; omega) (blockC hr0_0) (Kd.C_below hr0_0 (below_alloc (below_alloc (below_drew1 HX2.out.1) _) _)) hup.out h16 (by omega) hat.2) (by omega)).mono ?_; rintro e w4 ⟨v, rfl, hv, hb4⟩; have HV := Lib.hid hv; clear hv; have hb5 : Below w2.heap.size w2 w4 := (below_alloc (below_alloc (below_drew1 (Below.refl _ w2)) _) _).trans (hb4.mono (by simp; omega)); clear hb4))
      go_wp2
      have hB4 := HX2.out.1.trans (hb5.mono (by omega))
      exact bodyPost_ret (v := .tuple #[v, .int .i64 0]) (by simp [results, Try.results12, go_sem]) rfl ⟨v, rfl, by rw [HAT.out]; exact Kd.R_lower HV.out (by simp; omega), hB4⟩
  · rw [if_neg hi] at h
    simp only [Option.some.injEq, Prod.mk.injEq] at h
    obtain ⟨rfl, rfl⟩ := h
    have hfa : (decide (0 ≤ a1) && decide (a1 < (l0_3.length : Int))) = false := by
      by_cases z : 0 ≤ a1
      · rw [decide_eq_true z, decide_eq_false (fun z' => hi ⟨z, z'⟩)]; rfl
      · rw [decide_eq_false z]; rfl
    rw [hfa] at hii
    have HI := Lib.hid hii
    clear hii hfa
    go_enter Try.func12, Try.ntmps12
    go_wp2_with fail
    refine (tree_isIndex.calls _ _ _ _ HI.out).mono ?_
    rintro e w1 ⟨rfl, q1, rfl⟩
    go_wp2_with fail
    exact bodyPost_ret (v := .tuple #[.slice none 0 0, .int .i64 1]) (by simp [results, Try.results12, go_sem]) rfl ⟨_, rfl, Kd.R_nil _ _ _ _ _, pw_below_drewN HB.out q1⟩
end Go.Proofs.Ytpdmnineampimaa.Q
