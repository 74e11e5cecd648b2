import Derived.Test.YtpdmnineampimaaYe
import Derived.Test.YtpdmnineampimaaYQx41
set_option linter.unusedVariables false
set_option linter.unusedSimpArgs false
namespace Go.Proofs.Ytpdmnineampimaa.Q
open Go.RowKit Go.Proofs.YtpdmnineampimaaW.PrintWords Go.Proofs.YtpdmnineampimaaW.PrintLast Go.Proofs.YtpdmnineampimaaW.PrintMore
attribute [local go_sem] max2_int min2_int max_two min_two max_three min_three max_four min_four
mutual
def r08_Path.j0 : Nat → Int → Bool → List (S48) → List (S62) → List (S84) → List (S42) → List (S87) → Option (List Int × Int)
  | 0, _, _, _, _, _, _, _ => none
  | k + 1, x1, x21, x373000, x373001, x373002, x373003, x373004 => if x21 = true then (some (([] : List Int), 1)) else (if 0 ≤ x1 then (if x1 < (x373003.length : Int) then (r08_Path.l0 k ([] : List Int) ((rd_T42 x373003 x1).f1) x373000 x373001 x373002 x373003 x373004) else (none)) else (none))
def r08_Path.l0 : Nat → List Int → Int → List (S48) → List (S62) → List (S84) → List (S42) → List (S87) → Option (List Int × Int)
  | 0, _, _, _, _, _, _, _ => none
  | k + 1, x6, x7, x373000, x373001, x373002, x373003, x373004 => if x7 ≥ 0 then (if x6.length < 17592186044416 then (if 0 ≤ x7 then (if x7 < (x373000.length : Int) then (r08_Path.l0 k (x6 ++ [x7]) ((rd_T48 x373000 x7).f1) x373000 x373001 x373002 x373003 x373004) else (none)) else (none)) else (none)) else (some (x6, 0))
end
def r08_Path.f (k : Nat) (l0_0 : List (S48)) (l0_1 : List (S62)) (l0_2 : List (S84)) (l0_3 : List (S42)) (l0_4 : List (S87)) (a1 : Int) : Option (List Int × Int) := (r04_Valid.f k l0_0 l0_1 l0_2 l0_3 l0_4).bind fun t373 => (if t373 = true then (if a1 < 0 then (r08_Path.j0 k a1 true l0_0 l0_1 l0_2 l0_3 l0_4) else (r08_Path.j0 k a1 (decide (a1 ≥ (l0_3.length : Int))) l0_0 l0_1 l0_2 l0_3 l0_4)) else (r08_Path.j0 k a1 true l0_0 l0_1 l0_2 l0_3 l0_4))
theorem r08_Path.mono_l : ∀ k, (∀ y0 y1 y2 y3 y4 y5 y6, LeO (r08_Path.j0 k y0 y1 y2 y3 y4 y5 y6) (r08_Path.j0 (k + 1) y0 y1 y2 y3 y4 y5 y6)) ∧ (∀ y0 y1 y2 y3 y4 y5 y6, LeO (r08_Path.l0 k y0 y1 y2 y3 y4 y5 y6) (r08_Path.l0 (k + 1) y0 y1 y2 y3 y4 y5 y6))
  | 0 => ⟨fun _ _ _ _ _ _ _ r h => by simp [r08_Path.j0] at h, fun _ _ _ _ _ _ _ r h => by simp [r08_Path.l0] at h⟩
  | k + 1 => by
    obtain ⟨ih0, ih1⟩ := r08_Path.mono_l k
    refine ⟨?_, ?_⟩
    · intro y0 y1 y2 y3 y4 y5 y6
      unfold r08_Path.j0
      repeat' first | (with_reducible apply ih0) | (with_reducible apply ih1) | (with_reducible exact r04_Valid.mono _ _ _ _ _ _) | (with_reducible exact LeO.refl _) | (with_reducible exact LeO.none _) | (with_reducible refine LeO.ite ?_ ?_) | (with_reducible refine LeO.bind ?_ (fun _ => ?_))
    · intro y0 y1 y2 y3 y4 y5 y6
      unfold r08_Path.l0
      repeat' first | (with_reducible apply ih0) | (with_reducible apply ih1) | (with_reducible exact r04_Valid.mono _ _ _ _ _ _) | (with_reducible exact LeO.refl _) | (with_reducible exact LeO.none _) | (with_reducible refine LeO.ite ?_ ?_) | (with_reducible refine LeO.bind ?_ (fun _ => ?_))
theorem r08_Path.mono : ∀ a0 a1 a2 a3 a4 a5 k, LeO (r08_Path.f k a0 a1 a2 a3 a4 a5) (r08_Path.f (k + 1) a0 a1 a2 a3 a4 a5) := by
  intro a0 a1 a2 a3 a4 a5 k
  obtain ⟨ih0, ih1⟩ := r08_Path.mono_l k
  unfold r08_Path.f
  repeat' first | (with_reducible apply ih0) | (with_reducible apply ih1) | (with_reducible exact r04_Valid.mono _ _ _ _ _ _) | (with_reducible exact LeO.refl _) | (with_reducible exact LeO.none _) | (with_reducible refine LeO.ite ?_ ?_) | (with_reducible refine LeO.bind ?_ (fun _ => ?_))
set_option maxHeartbeats 8000000 in
set_option maxRecDepth 100000 in
theorem r08_Path.calls (k : Nat) (A0_0 : Option Addr) (c0_0 : Nat) (l0_0 : List (S48)) (A0_1 : Option Addr) (c0_1 : Nat) (l0_1 : List (S62)) (A0_2 : Option Addr) (c0_2 : Nat) (l0_2 : List (S84)) (A0_3 : Option Addr) (c0_3 : Nat) (l0_3 : List (S42)) (A0_4 : Option Addr) (c0_4 : Nat) (l0_4 : List (S87)) (a1 : Int) (r1 : List Int) (r2 : Int) (w : World) (hr0_0 : Kd.C k48 w A0_0 l0_0.length l0_0) (hc0_0 : l0_0.length ≤ c0_0) (hr0_1 : Kd.C k62 w A0_1 l0_1.length l0_1) (hc0_1 : l0_1.length ≤ c0_1) (hr0_2 : Kd.C k84 w A0_2 l0_2.length l0_2) (hc0_2 : l0_2.length ≤ c0_2) (hr0_3 : Kd.C k42 w A0_3 l0_3.length l0_3) (hc0_3 : l0_3.length ≤ c0_3) (hr0_4 : Kd.C k87 w A0_4 l0_4.length l0_4) (hc0_4 : l0_4.length ≤ c0_4) (h : r08_Path.f k l0_0 l0_1 l0_2 l0_3 l0_4 a1 = some (r1, r2)) :
    Calls Try.prog 13 #[.agg #[.slice A0_0 l0_0.length c0_0, .slice A0_1 l0_1.length c0_1, .slice A0_2 l0_2.length c0_2, .slice A0_3 l0_3.length c0_3, .slice A0_4 l0_4.length c0_4], .int .i64 a1] w fun e w' => ∃ v0_ : Value, e = .returned (.tuple #[v0_, .int .i64 r2]) ∧ Kd.R (Kd.int .i64) 3 w' w.heap.size (fun _ => True) v0_ r1 ∧ Below w.heap.size w w' := by
 have hu28 := Try.underlying28
 have HR0_0 := Aside0.mk hr0_0
 have HC0_0 := Aside0.mk hc0_0
 clear hr0_0 hc0_0
 have HR0_1 := Aside0.mk hr0_1
 have HC0_1 := Aside0.mk hc0_1
 clear hr0_1 hc0_1
 have HR0_2 := Aside0.mk hr0_2
 have HC0_2 := Aside0.mk hc0_2
 clear hr0_2 hc0_2
 have HR0_3 := Aside0.mk hr0_3
 have HC0_3 := Aside0.mk hc0_3
 clear hr0_3 hc0_3
 have HR0_4 := Aside0.mk hr0_4
 have HC0_4 := Aside0.mk hc0_4
 clear hr0_4 hc0_4
 have HB := Aside0.mk (Below.refl w.heap.size w)
 (try unfold r08_Path.f at h)
 have H := h
 clear h
 have HC3 := Aside0.mk H
 clear H
 go_enter Try.func13, Try.ntmps13
 go_upto_region 1 with (first | ((with_reducible refine gate_dst (N := 2) rfl ?_); (try (refine gate_guard (by rfl) ?_; dsimp only)); refine bE 2 28 #[.slice A0_0 l0_0.length c0_0, .slice A0_1 l0_1.length c0_1, .slice A0_2 l0_2.length c0_2, .slice A0_3 l0_3.length c0_3, .slice A0_4 l0_4.length c0_4] ?_; intro gb372 hg w4 hbox hb; have BK372 := Aside0.mk hbox; have GW372 := gE hg (kB HB); have GE372 := gE hg (kB HB); replace HB := bS (kB HB) hb; clear hb hbox hg))
 (try simp only [Act.put, List.setIfInBounds_toArray, List.set_cons_zero, List.set_cons_succ])
 go_cut [21] (fun v21 wc => ∃ (kq : Nat) (x21_2 : Bool), v21 = .bool x21_2 ∧ Aside0 (r08_Path.j0 kq a1 x21_2 l0_0 l0_1 l0_2 l0_3 l0_4 = some (r1, r2)) ∧ Aside0 (kq ≤ k) ∧ Aside0 (wc.heap[gb372]? = some (.cells #[(.slice A0_0 l0_0.length c0_0), (.slice A0_1 l0_1.length c0_1), (.slice A0_2 l0_2.length c0_2), (.slice A0_3 l0_3.length c0_3), (.slice A0_4 l0_4.length c0_4)] 28 (0, 0))) ∧ Aside0 (Below w.heap.size w wc))
 case first =>
  have H := HC3.out
  clear HC3
  replace H := Option.bind_eq_some_iff.mp H
  obtain ⟨t373, A50, H⟩ := H
  replace H : (if t373 = true then (if a1 < 0 then (r08_Path.j0 k a1 true l0_0 l0_1 l0_2 l0_3 l0_4) else (r08_Path.j0 k a1 (decide (a1 ≥ (l0_3.length : Int))) l0_0 l0_1 l0_2 l0_3 l0_4)) else (r08_Path.j0 k a1 true l0_0 l0_1 l0_2 l0_3 l0_4)) = some (r1, r2) := H
  have A5 := Aside0.mk A50
  clear A50
  by_cases c6 : t373 = true
  rotate_left
  ·replace c6 := Bool.eq_false_iff.mpr c6
   subst c6
   replace H := ifF H
   have H' := Aside0.mk H
   clear H
   obtain ⟨⟨_,_,_,_,_⟩,_,_,_,_,_⟩ := bx5 BK372
   go_wp2_with (first | ((with_reducible refine gate_callee (f := 30) rfl ?_); refine gL (some 9) Try.func30 #[.agg #[.slice A0_0 l0_0.length c0_0, .slice A0_1 l0_1.length c0_1, .slice A0_2 l0_2.length c0_2, .slice A0_3 l0_3.length c0_3, .slice A0_4 l0_4.length c0_4]] (r04_Valid.calls k _ _ l0_0 _ _ l0_1 _ _ l0_2 _ _ l0_3 _ _ l0_4 false _ (sC HR0_0 HB) HC0_0.out (sC HR0_1 HB) HC0_1.out (sC HR0_2 HB) HC0_2.out (sC HR0_3 HB) HC0_3.out (sC HR0_4 HB) HC0_4.out A5.out) ?_; rintro e w14 ⟨rfl, hb⟩; refine ⟨_, rfl, ?_⟩; replace BK372 := bK BK372 hb; replace HB := bS (kB1 HB GE372) hb))
   go_meet
   case rel => exact ⟨_, (true), tQ, H', ⟨tN⟩, ⟨kK BK372⟩, ⟨kB1 HB GE372⟩⟩
  subst c6
  replace H := ifT H
  by_cases c7 : a1 < 0
  ·rw [if_pos c7] at H
   have c7b0 : decide (a1 < 0) = true := decide_eq_true c7
   clear c7
   (first | rw [c7b0] | (simp only [i64_w, i32_w]; rw [c7b0]) | skip)
   have H' := Aside0.mk H
   clear H
   obtain ⟨⟨_,_,_,_,_⟩,_,_,_,_,_⟩ := bx5 BK372
   go_wp2_with (first | ((with_reducible refine gate_callee (f := 30) rfl ?_); refine gL (some 9) Try.func30 #[.agg #[.slice A0_0 l0_0.length c0_0, .slice A0_1 l0_1.length c0_1, .slice A0_2 l0_2.length c0_2, .slice A0_3 l0_3.length c0_3, .slice A0_4 l0_4.length c0_4]] (r04_Valid.calls k _ _ l0_0 _ _ l0_1 _ _ l0_2 _ _ l0_3 _ _ l0_4 true _ (sC HR0_0 HB) HC0_0.out (sC HR0_1 HB) HC0_1.out (sC HR0_2 HB) HC0_2.out (sC HR0_3 HB) HC0_3.out (sC HR0_4 HB) HC0_4.out A5.out) ?_; rintro e w9 ⟨rfl, hb⟩; refine ⟨_, rfl, ?_⟩; replace BK372 := bK BK372 hb; replace HB := bS (kB1 HB GE372) hb))
   go_meet
   case rel => exact ⟨_, (true), tQ, H', ⟨tN⟩, ⟨kK BK372⟩, ⟨kB1 HB GE372⟩⟩
  rw [if_neg c7] at H
  have c7b0 : decide (a1 < 0) = false := decide_eq_false c7
  clear c7
  (first | rw [c7b0] | (simp only [i64_w, i32_w]; rw [c7b0]) | skip)
  have H' := Aside0.mk H
  clear H
  obtain ⟨⟨_,_,_,_,_⟩,_,_,_,_,_⟩ := bx5 BK372
  go_wp2_with (first | ((with_reducible refine gate_callee (f := 30) rfl ?_); refine gL (some 9) Try.func30 #[.agg #[.slice A0_0 l0_0.length c0_0, .slice A0_1 l0_1.length c0_1, .slice A0_2 l0_2.length c0_2, .slice A0_3 l0_3.length c0_3, .slice A0_4 l0_4.length c0_4]] (r04_Valid.calls k _ _ l0_0 _ _ l0_1 _ _ l0_2 _ _ l0_3 _ _ l0_4 true _ (sC HR0_0 HB) HC0_0.out (sC HR0_1 HB) HC0_1.out (sC HR0_2 HB) HC0_2.out (sC HR0_3 HB) HC0_3.out (sC HR0_4 HB) HC0_4.out A5.out) ?_; rintro e w11 ⟨rfl, hb⟩; refine ⟨_, rfl, ?_⟩; replace BK372 := bK BK372 hb; replace HB := bS (kB1 HB GE372) hb; obtain ⟨⟨_,_,_,_,_⟩,_,_,_,_,_⟩ := bx5 BK372))
  go_meet
  case rel => exact ⟨_, (decide (a1 ≥ (l0_3.length : Int))), tQ, H', ⟨tN⟩, ⟨kK BK372⟩, ⟨kB1 HB GE372⟩⟩
 case rest =>
  clear HC3
  obtain ⟨kq, x21_2, rfl, HA, HJ2, BK372, HB⟩ := hcut
  cases kq with
  | zero => exact absurd HA.out (by simp [r08_Path.j0])
  | succ kj2 =>
   have H := HA.out
   clear HA
   simp only [r08_Path.j0] at H
   by_cases c15 : x21_2 = true
   ·subst c15
    replace H := ifT H
    simp only [Option.some.injEq, Prod.mk.injEq] at H
    obtain ⟨rfl, rfl⟩ := H
    go_wp2
    go_ret2
    exact ⟨_, tE, by first | exact Kd.R_nil _ _ _ _ _ | exact Kd.N_nil _ _ _ _ _ | exact Kd.V_nil _ _ _ _ _ | exact Kd.Q_nil _ _ _ _ _ | exact Kd.S_nil _ _ _ _ _, kB1 HB GE372⟩
   replace c15 := Bool.eq_false_iff.mpr c15
   subst c15
   replace H := ifF H
   by_cases c16 : 0 ≤ a1
   rotate_left
   ·rw [if_neg c16] at H
    exact absurd H (by simp)
   rw [if_pos c16] at H
   have c16b0 : decide (0 ≤ a1) = true := decide_eq_true c16
   clear c16
   by_cases c17 : a1 < (l0_3.length : Int)
   rotate_left
   ·rw [if_neg c17] at H
    exact absurd H (by simp)
   rw [if_pos c17] at H
   have c17b0 : decide (a1 < (l0_3.length : Int)) = true := decide_eq_true c17
   clear c17
   have H' := Aside0.mk H
   clear H
   obtain ⟨⟨_,_,_,_,_⟩,_,_,_,_,_⟩ := bx5 BK372
   have p374 : 0 ≤ (a1 : Int) := tD
   have q374 : a1 < (l0_3.length : Int) := tD
   obtain ⟨ad374, e374, hx374_0, hx374_1, hx374_2, hx374_3, hx374_4, hx374_5, hx374_6, hx374_7⟩ := at_T42 HR0_3.out a1 p374 q374
   cases e374
   replace hx374_0 := cB HB hx374_0
   replace hx374_1 := cB HB hx374_1
   replace hx374_2 := cB HB hx374_2
   replace hx374_3 := cB HB hx374_3
   replace hx374_4 := cB HB hx374_4
   replace hx374_5 := cB HB hx374_5
   replace hx374_6 := cB HB hx374_6
   replace hx374_7 := cB HB hx374_7
   replace p374 := eq_true p374
   replace q374 := eq_true q374
   go_wp2
   go_loopg [6, 7] kj2 (fun kq v6 v7 w' => ∃ (x6_2 : List Int) (x7_2 : Int), v7 = .int .i64 x7_2 ∧ Aside0 (r08_Path.l0 kq x6_2 x7_2 l0_0 l0_1 l0_2 l0_3 l0_4 = some (r1, r2)) ∧ Aside0 (kq ≤ kj2) ∧ Aside0 (Kd.R (Kd.int .i64) 3 w' w.heap.size (fun _ => True) v6 x6_2) ∧ Aside0 (w'.heap[gb372]? = some (.cells #[(.slice A0_0 l0_0.length c0_0), (.slice A0_1 l0_1.length c0_1), (.slice A0_2 l0_2.length c0_2), (.slice (some ad374) l0_3.length c0_3), (.slice A0_4 l0_4.length c0_4)] 28 (0, 0))) ∧ Aside0 (Below w.heap.size w w'))
   case atStart => exact ⟨(([] : List Int)), ((rd_T42 l0_3 a1).f1), tQ, H', ⟨Nat.le_refl _⟩, ⟨by first | exact Kd.R_nil _ _ _ _ _ | exact Kd.N_nil _ _ _ _ _ | exact Kd.V_nil _ _ _ _ _ | exact Kd.Q_nil _ _ _ _ _ | exact Kd.S_nil _ _ _ _ _⟩, ⟨kK BK372⟩, ⟨kB1 HB GE372⟩⟩
   case round =>
    clear H'
    obtain ⟨x6_2, x7_2, rfl, HA, HK2, HO_6, BK372, HB⟩ := hrel
    cases gk with
    | zero => exact absurd HA.out (by simp [r08_Path.l0])
    | succ k2 =>
     have H := HA.out
     clear HA
     simp only [r08_Path.l0] at H
     by_cases c19 : x7_2 ≥ 0
     rotate_left
     ·rw [if_neg c19] at H
      have c19b0 : decide (0 ≤ x7_2) = false := decide_eq_false c19
      clear c19
      simp only [Option.some.injEq, Prod.mk.injEq] at H
      obtain ⟨rfl, rfl⟩ := H
      go_wp2
      go_ret2
      exact ⟨_, tE, by (with_reducible repeat (first | apply Kd.R_alloc | apply Kd.R_drewN | apply Kd.R_drew)); exact HO_6.out, kB1 HB GE372⟩
     rw [if_pos c19] at H
     have c19b0 : decide (0 ≤ x7_2) = true := decide_eq_true c19
     clear c19
     by_cases c20 : x6_2.length < 17592186044416
     rotate_left
     ·rw [if_neg c20] at H
      exact absurd H (by simp)
     rw [if_pos c20] at H
     have LMc20 := Aside0.mk c20
     clear c20
     obtain ⟨y375, hy375⟩ : ∃ y_ : List Int, y_ = (x6_2 ++ [x7_2]) := ⟨_, rfl⟩
     replace H : (if 0 ≤ x7_2 then (if x7_2 < (l0_0.length : Int) then (r08_Path.l0 k2 y375 ((rd_T48 l0_0 x7_2).f1) l0_0 l0_1 l0_2 l0_3 l0_4) else (none)) else (none)) = some (r1, r2) := by first | (rw [hy375]; with_reducible exact H) | (have H2_ := (Option.bind_some _ _).symm.trans H; rw [hy375]; with_reducible exact H2_) | (have H2_ := (Option.bind_some _ _).symm.trans H; with_reducible exact H2_) | with_reducible exact H | (rw [hy375]; exact H) | exact H
     have Ny375 := Aside0.mk hy375
     clear hy375
     by_cases c21 : 0 ≤ x7_2
     rotate_left
     ·rw [if_neg c21] at H
      exact absurd H (by simp)
     rw [if_pos c21] at H
     have c21b0 : decide (0 ≤ x7_2) = true := decide_eq_true c21
     clear c21
     by_cases c22 : x7_2 < (l0_0.length : Int)
     rotate_left
     ·rw [if_neg c22] at H
      exact absurd H (by simp)
     rw [if_pos c22] at H
     have c22b0 : decide (x7_2 < (l0_0.length : Int)) = true := decide_eq_true c22
     clear c22
     have H' := Aside0.mk H
     clear H
     go_wp2_with (first | ((with_reducible refine gate_builtin (b := .append) (xs := #[.tmp 30, .tmp 32]) rfl ?_); (try (refine gate_guard (by rfl) ?_; dsimp only)); at_builtin; refine Kd.R_append (Kd.int .i64) (w0 := w) w.heap.size rfl (.tmp 30) (.tmp 32) 29 3 (.int .i64 0) 8 rfl Try.underlying29 info3 rfl (by decide) (by omega) u6 x6_2 x7_2 [.int .i64 x7_2] (fun _ => True) (fun _ => False) rfl rfl ?aP (fun _ hk => hk.elim) ?aF ?aO ?aB ?aS ?aL ?_; (case aP => exact rfl); (case aB => exact (kB1 HB GE372)); (case aF => exact (fun _ _ => trivial)); (case aO => exact (kR HO_6)); (case aS => exact (below_size (kB1 HB GE372))); (case aL => have := LMc20.out; omega); intro v376 w23 ho hb hg hat; rw [← Ny375.out] at ho; replace BK372 := Aside0.mk (blk_grown (g := gb372) (o := .cells #[.slice A0_0 l0_0.length c0_0, .slice A0_1 l0_1.length c0_1, .slice A0_2 l0_2.length c0_2, .slice (some ad374) l0_3.length c0_3, .slice A0_4 l0_4.length c0_4] 28 (0, 0)) (kK BK372) hg (Kd.R_ne HO_6.out BK372.out (by decide))); replace HB := Aside0.mk hb; have HO377 := Aside0.mk ho; clear HO_6; clear ho hb hg hat; obtain ⟨⟨_,_,_,_,_⟩,_,_,_,_,_⟩ := bx5 BK372; have p378 : 0 ≤ (x7_2 : Int) := tD; have q378 : x7_2 < (l0_0.length : Int) := tD; obtain ⟨ad378, e378, hx378_0, hx378_1, hx378_2, hx378_3, hx378_4, hx378_5, hx378_6, hx378_7, hx378_8, hx378_9, hx378_10⟩ := at_T48 HR0_0.out x7_2 p378 q378; cases e378; replace hx378_0 := cB HB hx378_0; replace hx378_1 := cB HB hx378_1; replace hx378_2 := cB HB hx378_2; replace hx378_3 := cB HB hx378_3; replace hx378_4 := cB HB hx378_4; replace hx378_5 := cB HB hx378_5; replace hx378_6 := cB HB hx378_6; replace hx378_7 := cB HB hx378_7; replace hx378_8 := cB HB hx378_8; replace hx378_9 := cB HB hx378_9; replace hx378_10 := cB HB hx378_10; replace p378 := eq_true p378; replace q378 := eq_true q378))
     go_roundg k2
     case measure => have := HJ2.out; have := HK2.out; omega
     case rel => exact ⟨(y375), ((rd_T48 l0_0 x7_2).f1), tQ, H', ⟨kO2 HJ2 HK2⟩, ⟨kR HO377⟩, ⟨kK BK372⟩, ⟨kB1 HB GE372⟩⟩
end Go.Proofs.Ytpdmnineampimaa.Q
