import Derived.Test.YtpdmnineampimaaYe
import Derived.Test.YtpdmnineampimaaYQx41
import Derived.Test.YtpdmnineampimaaYQx45
set_option linter.unusedVariables false
set_option linter.unusedSimpArgs false
namespace Go.Proofs.Ytpdmnineampimaa.Q
open Go.RowKit Go.Proofs.YtpdmnineampimaaW.PrintWords Go.Proofs.YtpdmnineampimaaW.PrintLast Go.Proofs.YtpdmnineampimaaW.PrintMore
attribute [local go_sem] max2_int min2_int max_two min_two max_three min_three max_four min_four
mutual
def r08_Below.j0 : Nat → Int → Bool → List (S48) → List (S62) → List (S84) → List (S42) → List (S87) → Option (List Int × Int)
  | 0, _, _, _, _, _, _, _ => none
  | k + 1, x1, x21, x403000, x403001, x403002, x403003, x403004 => if x21 = true then (some (([] : List Int), 1)) else (r08_Below.l0 k x1 ([] : List Int) 0 x403000 x403001 x403002 x403003 x403004)
def r08_Below.l0 : Nat → Int → List Int → Int → List (S48) → List (S62) → List (S84) → List (S42) → List (S87) → Option (List Int × Int)
  | 0, _, _, _, _, _, _, _, _ => none
  | k + 1, x1, x6, x7, x403000, x403001, x403002, x403003, x403004 => if x7 < (x403003.length : Int) then (if 0 ≤ x7 then ((r08_On.f k x403000 x403001 x403002 x403003 x403004 x1 ((rd_T42 x403003 x7).f1)).bind fun t405 => (if t405 = true then (if x6.length < 17592186044416 then (r08_Below.l0 k x1 (x6 ++ [x7]) (wrap64 (x7 + 1)) x403000 x403001 x403002 x403003 x403004) else (none)) else (r08_Below.l0 k x1 x6 (wrap64 (x7 + 1)) x403000 x403001 x403002 x403003 x403004))) else (none)) else (some (x6, 0))
end
def r08_Below.f (k : Nat) (l0_0 : List (S48)) (l0_1 : List (S62)) (l0_2 : List (S84)) (l0_3 : List (S42)) (l0_4 : List (S87)) (a1 : Int) : Option (List Int × Int) := (r04_Valid.f k l0_0 l0_1 l0_2 l0_3 l0_4).bind fun t403 => (if t403 = true then (if a1 < 0 then (r08_Below.j0 k a1 true l0_0 l0_1 l0_2 l0_3 l0_4) else (r08_Below.j0 k a1 (decide (a1 ≥ (l0_0.length : Int))) l0_0 l0_1 l0_2 l0_3 l0_4)) else (r08_Below.j0 k a1 true l0_0 l0_1 l0_2 l0_3 l0_4))
theorem r08_Below.mono_l : ∀ k, (∀ y0 y1 y2 y3 y4 y5 y6, LeO (r08_Below.j0 k y0 y1 y2 y3 y4 y5 y6) (r08_Below.j0 (k + 1) y0 y1 y2 y3 y4 y5 y6)) ∧ (∀ y0 y1 y2 y3 y4 y5 y6 y7, LeO (r08_Below.l0 k y0 y1 y2 y3 y4 y5 y6 y7) (r08_Below.l0 (k + 1) y0 y1 y2 y3 y4 y5 y6 y7))
  | 0 => ⟨fun _ _ _ _ _ _ _ r h => by simp [r08_Below.j0] at h, fun _ _ _ _ _ _ _ _ r h => by simp [r08_Below.l0] at h⟩
  | k + 1 => by
    obtain ⟨ih0, ih1⟩ := r08_Below.mono_l k
    refine ⟨?_, ?_⟩
    · intro y0 y1 y2 y3 y4 y5 y6
      unfold r08_Below.j0
      repeat' first | (with_reducible apply ih0) | (with_reducible apply ih1) | (with_reducible exact r04_Valid.mono _ _ _ _ _ _) | (with_reducible exact r08_On.mono _ _ _ _ _ _ _ _) | (with_reducible exact LeO.refl _) | (with_reducible exact LeO.none _) | (with_reducible refine LeO.ite ?_ ?_) | (with_reducible refine LeO.bind ?_ (fun _ => ?_))
    · intro y0 y1 y2 y3 y4 y5 y6 y7
      unfold r08_Below.l0
      repeat' first | (with_reducible apply ih0) | (with_reducible apply ih1) | (with_reducible exact r04_Valid.mono _ _ _ _ _ _) | (with_reducible exact r08_On.mono _ _ _ _ _ _ _ _) | (with_reducible exact LeO.refl _) | (with_reducible exact LeO.none _) | (with_reducible refine LeO.ite ?_ ?_) | (with_reducible refine LeO.bind ?_ (fun _ => ?_))
theorem r08_Below.mono : ∀ a0 a1 a2 a3 a4 a5 k, LeO (r08_Below.f k a0 a1 a2 a3 a4 a5) (r08_Below.f (k + 1) a0 a1 a2 a3 a4 a5) := by
  intro a0 a1 a2 a3 a4 a5 k
  obtain ⟨ih0, ih1⟩ := r08_Below.mono_l k
  unfold r08_Below.f
  repeat' first | (with_reducible apply ih0) | (with_reducible apply ih1) | (with_reducible exact r04_Valid.mono _ _ _ _ _ _) | (with_reducible exact r08_On.mono _ _ _ _ _ _ _ _) | (with_reducible exact LeO.refl _) | (with_reducible exact LeO.none _) | (with_reducible refine LeO.ite ?_ ?_) | (with_reducible refine LeO.bind ?_ (fun _ => ?_))
def r08_Below.T7 : Bool × List (List Nat × List Nat) := (true, [([], []), ([], []), ([], []), ([2], [2]), ([], []), ([3, 4], [3, 4]), ([5], [5]), ([6], [6]), ([0, 1, 7], [0, 1, 7])])
def r08_Below.B7 : List Nat := [0, 0, 0, 4, 0, 28, 60, 124, 255]
theorem r08_Below.tab7 : rtab .any (opsOf Try.f17 7) = r08_Below.T7 := by kernel_rfl
theorem r08_Below.bits7 : waitsOk r08_Below.T7.2 r08_Below.B7 = true := by kernel_rfl
set_option maxHeartbeats 8000000 in
set_option maxRecDepth 100000 in
theorem r08_Below.calls (k : Nat) (A0_0 : Option Addr) (c0_0 : Nat) (l0_0 : List (S48)) (A0_1 : Option Addr) (c0_1 : Nat) (l0_1 : List (S62)) (A0_2 : Option Addr) (c0_2 : Nat) (l0_2 : List (S84)) (A0_3 : Option Addr) (c0_3 : Nat) (l0_3 : List (S42)) (A0_4 : Option Addr) (c0_4 : Nat) (l0_4 : List (S87)) (a1 : Int) (r1 : List Int) (r2 : Int) (w : World) (hr0_0 : Kd.C k48 w A0_0 l0_0.length l0_0) (hc0_0 : l0_0.length ≤ c0_0) (hr0_1 : Kd.C k62 w A0_1 l0_1.length l0_1) (hc0_1 : l0_1.length ≤ c0_1) (hr0_2 : Kd.C k84 w A0_2 l0_2.length l0_2) (hc0_2 : l0_2.length ≤ c0_2) (hr0_3 : Kd.C k42 w A0_3 l0_3.length l0_3) (hc0_3 : l0_3.length ≤ c0_3) (hr0_4 : Kd.C k87 w A0_4 l0_4.length l0_4) (hc0_4 : l0_4.length ≤ c0_4) (h : r08_Below.f k l0_0 l0_1 l0_2 l0_3 l0_4 a1 = some (r1, r2)) :
    Calls Try.prog 17 #[.agg #[.slice A0_0 l0_0.length c0_0, .slice A0_1 l0_1.length c0_1, .slice A0_2 l0_2.length c0_2, .slice A0_3 l0_3.length c0_3, .slice A0_4 l0_4.length c0_4], .int .i64 a1] w fun e w' => ∃ v0_ : Value, e = .returned (.tuple #[v0_, .int .i64 r2]) ∧ Kd.R (Kd.int .i64) 3 w' w.heap.size (fun _ => True) v0_ r1 ∧ Below w.heap.size w w' := by
 have hu28 := Try.underlying28
 have HR0_0 := Aside0.mk hr0_0
 have HC0_0 := Aside0.mk hc0_0
 clear hr0_0 hc0_0
 have HR0_1 := Aside0.mk hr0_1
 have HC0_1 := Aside0.mk hc0_1
 clear hr0_1 hc0_1
 have HR0_2 := Aside0.mk hr0_2
 have HC0_2 := Aside0.mk hc0_2
 clear hr0_2 hc0_2
 have HR0_3 := Aside0.mk hr0_3
 have HC0_3 := Aside0.mk hc0_3
 clear hr0_3 hc0_3
 have HR0_4 := Aside0.mk hr0_4
 have HC0_4 := Aside0.mk hc0_4
 clear hr0_4 hc0_4
 have HB := Aside0.mk (Below.refl w.heap.size w)
 (try unfold r08_Below.f at h)
 have H := h
 clear h
 have HC3 := Aside0.mk H
 clear H
 go_enter Try.func17, Try.ntmps17
 go_upto_region 1 with (first | ((with_reducible refine gate_dst (N := 2) rfl ?_); (try (refine gate_guard (by rfl) ?_; dsimp only)); refine bE 2 28 #[.slice A0_0 l0_0.length c0_0, .slice A0_1 l0_1.length c0_1, .slice A0_2 l0_2.length c0_2, .slice A0_3 l0_3.length c0_3, .slice A0_4 l0_4.length c0_4] ?_; intro gb402 hg w4 hbox hb; have BK402 := Aside0.mk hbox; have GW402 := gE hg (kB HB); have GE402 := gE hg (kB HB); replace HB := bS (kB HB) hb; clear hb hbox hg))
 (try simp only [Act.put, List.setIfInBounds_toArray, List.set_cons_zero, List.set_cons_succ])
 go_cut [21] (fun v21 wc => ∃ (kq : Nat) (x21_2 : Bool), v21 = .bool x21_2 ∧ Aside0 (r08_Below.j0 kq a1 x21_2 l0_0 l0_1 l0_2 l0_3 l0_4 = some (r1, r2)) ∧ Aside0 (kq ≤ k) ∧ Aside0 (wc.heap[gb402]? = some (.cells #[(.slice A0_0 l0_0.length c0_0), (.slice A0_1 l0_1.length c0_1), (.slice A0_2 l0_2.length c0_2), (.slice A0_3 l0_3.length c0_3), (.slice A0_4 l0_4.length c0_4)] 28 (0, 0))) ∧ Aside0 (Below w.heap.size w wc))
 case first =>
  have H := HC3.out
  clear HC3
  replace H := Option.bind_eq_some_iff.mp H
  obtain ⟨t403, A50, H⟩ := H
  replace H : (if t403 = true then (if a1 < 0 then (r08_Below.j0 k a1 true l0_0 l0_1 l0_2 l0_3 l0_4) else (r08_Below.j0 k a1 (decide (a1 ≥ (l0_0.length : Int))) l0_0 l0_1 l0_2 l0_3 l0_4)) else (r08_Below.j0 k a1 true l0_0 l0_1 l0_2 l0_3 l0_4)) = some (r1, r2) := H
  have A5 := Aside0.mk A50
  clear A50
  by_cases c6 : t403 = true
  rotate_left
  ·replace c6 := Bool.eq_false_iff.mpr c6
   subst c6
   replace H := ifF H
   have H' := Aside0.mk H
   clear H
   obtain ⟨⟨_,_,_,_,_⟩,_,_,_,_,_⟩ := bx5 BK402
   go_wp2_with (first | ((with_reducible refine gate_callee (f := 30) rfl ?_); refine gL (some 9) Try.func30 #[.agg #[.slice A0_0 l0_0.length c0_0, .slice A0_1 l0_1.length c0_1, .slice A0_2 l0_2.length c0_2, .slice A0_3 l0_3.length c0_3, .slice A0_4 l0_4.length c0_4]] (r04_Valid.calls k _ _ l0_0 _ _ l0_1 _ _ l0_2 _ _ l0_3 _ _ l0_4 false _ (sC HR0_0 HB) HC0_0.out (sC HR0_1 HB) HC0_1.out (sC HR0_2 HB) HC0_2.out (sC HR0_3 HB) HC0_3.out (sC HR0_4 HB) HC0_4.out A5.out) ?_; rintro e w14 ⟨rfl, hb⟩; refine ⟨_, rfl, ?_⟩; replace BK402 := bK BK402 hb; replace HB := bS (kB1 HB GE402) hb))
   go_meet
   case rel => exact ⟨_, (true), tQ, H', ⟨tN⟩, ⟨kK BK402⟩, ⟨kB1 HB GE402⟩⟩
  subst c6
  replace H := ifT H
  by_cases c7 : a1 < 0
  ·rw [if_pos c7] at H
   have c7b0 : decide (a1 < 0) = true := decide_eq_true c7
   clear c7
   (first | rw [c7b0] | (simp only [i64_w, i32_w]; rw [c7b0]) | skip)
   have H' := Aside0.mk H
   clear H
   obtain ⟨⟨_,_,_,_,_⟩,_,_,_,_,_⟩ := bx5 BK402
   go_wp2_with (first | ((with_reducible refine gate_callee (f := 30) rfl ?_); refine gL (some 9) Try.func30 #[.agg #[.slice A0_0 l0_0.length c0_0, .slice A0_1 l0_1.length c0_1, .slice A0_2 l0_2.length c0_2, .slice A0_3 l0_3.length c0_3, .slice A0_4 l0_4.length c0_4]] (r04_Valid.calls k _ _ l0_0 _ _ l0_1 _ _ l0_2 _ _ l0_3 _ _ l0_4 true _ (sC HR0_0 HB) HC0_0.out (sC HR0_1 HB) HC0_1.out (sC HR0_2 HB) HC0_2.out (sC HR0_3 HB) HC0_3.out (sC HR0_4 HB) HC0_4.out A5.out) ?_; rintro e w9 ⟨rfl, hb⟩; refine ⟨_, rfl, ?_⟩; replace BK402 := bK BK402 hb; replace HB := bS (kB1 HB GE402) hb))
   go_meet
   case rel => exact ⟨_, (true), tQ, H', ⟨tN⟩, ⟨kK BK402⟩, ⟨kB1 HB GE402⟩⟩
  rw [if_neg c7] at H
  have c7b0 : decide (a1 < 0) = false := decide_eq_false c7
  clear c7
  (first | rw [c7b0] | (simp only [i64_w, i32_w]; rw [c7b0]) | skip)
  have H' := Aside0.mk H
  clear H
  obtain ⟨⟨_,_,_,_,_⟩,_,_,_,_,_⟩ := bx5 BK402
  go_wp2_with (first | ((with_reducible refine gate_callee (f := 30) rfl ?_); refine gL (some 9) Try.func30 #[.agg #[.slice A0_0 l0_0.length c0_0, .slice A0_1 l0_1.length c0_1, .slice A0_2 l0_2.length c0_2, .slice A0_3 l0_3.length c0_3, .slice A0_4 l0_4.length c0_4]] (r04_Valid.calls k _ _ l0_0 _ _ l0_1 _ _ l0_2 _ _ l0_3 _ _ l0_4 true _ (sC HR0_0 HB) HC0_0.out (sC HR0_1 HB) HC0_1.out (sC HR0_2 HB) HC0_2.out (sC HR0_3 HB) HC0_3.out (sC HR0_4 HB) HC0_4.out A5.out) ?_; rintro e w11 ⟨rfl, hb⟩; refine ⟨_, rfl, ?_⟩; replace BK402 := bK BK402 hb; replace HB := bS (kB1 HB GE402) hb; obtain ⟨⟨_,_,_,_,_⟩,_,_,_,_,_⟩ := bx5 BK402))
  go_meet
  case rel => exact ⟨_, (decide (a1 ≥ (l0_0.length : Int))), tQ, H', ⟨tN⟩, ⟨kK BK402⟩, ⟨kB1 HB GE402⟩⟩
 case rest =>
  clear HC3
  obtain ⟨kq, x21_2, rfl, HA, HJ2, BK402, HB⟩ := hcut
  cases kq with
  | zero => exact absurd HA.out (by simp [r08_Below.j0])
  | succ kj2 =>
   have H := HA.out
   clear HA
   simp only [r08_Below.j0] at H
   by_cases c15 : x21_2 = true
   ·subst c15
    replace H := ifT H
    simp only [Option.some.injEq, Prod.mk.injEq] at H
    obtain ⟨rfl, rfl⟩ := H
    go_wp2
    go_ret2
    exact ⟨_, tE, by first | exact Kd.R_nil _ _ _ _ _ | exact Kd.N_nil _ _ _ _ _ | exact Kd.V_nil _ _ _ _ _ | exact Kd.Q_nil _ _ _ _ _ | exact Kd.S_nil _ _ _ _ _, kB1 HB GE402⟩
   replace c15 := Bool.eq_false_iff.mpr c15
   subst c15
   replace H := ifF H
   have H' := Aside0.mk H
   clear H
   go_wp2
   go_loopg [6, 7] kj2 (fun kq v6 v7 w' => ∃ (x6_2 : List Int) (x7_2 : Int), v7 = .int .i64 x7_2 ∧ Aside0 (r08_Below.l0 kq a1 x6_2 x7_2 l0_0 l0_1 l0_2 l0_3 l0_4 = some (r1, r2)) ∧ Aside0 (kq ≤ kj2) ∧ Aside0 (Kd.R (Kd.int .i64) 3 w' w.heap.size (fun _ => True) v6 x6_2) ∧ Aside0 (w'.heap[gb402]? = some (.cells #[(.slice A0_0 l0_0.length c0_0), (.slice A0_1 l0_1.length c0_1), (.slice A0_2 l0_2.length c0_2), (.slice A0_3 l0_3.length c0_3), (.slice A0_4 l0_4.length c0_4)] 28 (0, 0))) ∧ Aside0 (Below w.heap.size w w'))
   case atStart => exact ⟨(([] : List Int)), (0), tQ, H', ⟨Nat.le_refl _⟩, ⟨by first | exact Kd.R_nil _ _ _ _ _ | exact Kd.N_nil _ _ _ _ _ | exact Kd.V_nil _ _ _ _ _ | exact Kd.Q_nil _ _ _ _ _ | exact Kd.S_nil _ _ _ _ _⟩, ⟨kK BK402⟩, ⟨kB1 HB GE402⟩⟩
   case round =>
    clear H'
    obtain ⟨x6_2, x7_2, rfl, HA, HK2, HO_6, BK402, HB⟩ := hrel
    cases gk with
    | zero => exact absurd HA.out (by simp [r08_Below.l0])
    | succ k2 =>
     have H := HA.out
     clear HA
     simp only [r08_Below.l0] at H
     by_cases c16 : x7_2 < (l0_3.length : Int)
     rotate_left
     ·rw [if_neg c16] at H
      have c16b0 : decide (x7_2 < (l0_3.length : Int)) = false := decide_eq_false c16
      clear c16
      simp only [Option.some.injEq, Prod.mk.injEq] at H
      obtain ⟨rfl, rfl⟩ := H
      obtain ⟨⟨_,_,_,_,_⟩,_,_,_,_,_⟩ := bx5 BK402
      go_wp2
      go_ret2
      exact ⟨_, tE, by (with_reducible repeat (first | apply Kd.R_alloc | apply Kd.R_drewN | apply Kd.R_drew)); exact HO_6.out, kB1 HB GE402⟩
     rw [if_pos c16] at H
     have c16b0 : decide (x7_2 < (l0_3.length : Int)) = true := decide_eq_true c16
     clear c16
     by_cases c17 : 0 ≤ x7_2
     rotate_left
     ·rw [if_neg c17] at H
      exact absurd H (by simp)
     rw [if_pos c17] at H
     have c17b0 : decide (0 ≤ x7_2) = true := decide_eq_true c17
     clear c17
     replace H := Option.bind_eq_some_iff.mp H
     obtain ⟨t405, A180, H⟩ := H
     replace H : (if t405 = true then (if x6_2.length < 17592186044416 then (r08_Below.l0 k2 a1 (x6_2 ++ [x7_2]) (wrap64 (x7_2 + 1)) l0_0 l0_1 l0_2 l0_3 l0_4) else (none)) else (r08_Below.l0 k2 a1 x6_2 (wrap64 (x7_2 + 1)) l0_0 l0_1 l0_2 l0_3 l0_4)) = some (r1, r2) := H
     have A18 := Aside0.mk A180
     clear A180
     by_cases c19 : t405 = true
     rotate_left
     ·replace c19 := Bool.eq_false_iff.mpr c19
      subst c19
      replace H := ifF H
      have H' := Aside0.mk H
      clear H
      obtain ⟨⟨_,_,_,_,_⟩,_,_,_,_,_⟩ := bx5 BK402
      try go_wp2
      replace HO_6 := Aside0.mk (Kd.R_drew HO_6.out)
      replace BK402 := Aside0.mk (blk_drew BK402.out)
      replace HB := Aside0.mk (below_drew1 HB.out)
      have p404 : 0 ≤ (x7_2 : Int) := tD
      have q404 : x7_2 < (l0_3.length : Int) := tD
      obtain ⟨ad404, e404, hx404_0, hx404_1, hx404_2, hx404_3, hx404_4, hx404_5, hx404_6, hx404_7⟩ := at_T42 HR0_3.out x7_2 p404 q404
      have hw404_7 := hx404_7
      have hw404_6 := hx404_6
      have hw404_5 := hx404_5
      have hw404_4 := hx404_4
      have hw404_3 := hx404_3
      have hw404_2 := hx404_2
      have hw404_1 := hx404_1
      have hw404_0 := hx404_0
      cases e404
      replace hx404_0 := cB HB hx404_0
      replace hx404_1 := cB HB hx404_1
      replace hx404_2 := cB HB hx404_2
      replace hx404_3 := cB HB hx404_3
      replace hx404_4 := cB HB hx404_4
      replace hx404_5 := cB HB hx404_5
      replace hx404_6 := cB HB hx404_6
      replace hx404_7 := cB HB hx404_7
      replace p404 := eq_true p404
      replace q404 := eq_true q404
      refine start_ (n := 9) (S := fun w' => w'.cell? ⟨gb402, 0, none⟩ = some (.slice A0_0 l0_0.length c0_0) ∧ w'.cell? ⟨gb402, 1, none⟩ = some (.slice A0_1 l0_1.length c0_1) ∧ w'.cell? ⟨gb402, 2, none⟩ = some (.slice A0_2 l0_2.length c0_2) ∧ w'.cell? ⟨gb402, 3, none⟩ = some (.slice (some ad404) l0_3.length c0_3) ∧ w'.cell? ⟨gb402, 4, none⟩ = some (.slice A0_4 l0_4.length c0_4) ∧ w'.cell? (ad404.add ((x7_2).toNat * 8)) = some (.string ((rd_T42 l0_3 x7_2).f0)) ∧ w'.cell? ⟨(ad404.add ((x7_2).toNat * 8)).block, (ad404.add ((x7_2).toNat * 8)).off + 1, none⟩ = some (.int .i64 ((rd_T42 l0_3 x7_2).f1)) ∧ w'.cell? ⟨(ad404.add ((x7_2).toNat * 8)).block, (ad404.add ((x7_2).toNat * 8)).off + 2, none⟩ = some (.int .i64 ((rd_T42 l0_3 x7_2).f2)) ∧ w'.cell? ⟨(ad404.add ((x7_2).toNat * 8)).block, (ad404.add ((x7_2).toNat * 8)).off + 3, none⟩ = some (.int .i64 ((rd_T42 l0_3 x7_2).f3)) ∧ w'.cell? ⟨(ad404.add ((x7_2).toNat * 8)).block, (ad404.add ((x7_2).toNat * 8)).off + 4, none⟩ = some (.int .i64 ((rd_T42 l0_3 x7_2).f4)) ∧ w'.cell? ⟨(ad404.add ((x7_2).toNat * 8)).block, (ad404.add ((x7_2).toNat * 8)).off + 5, none⟩ = some (.int .i64 ((rd_T42 l0_3 x7_2).f5)) ∧ w'.cell? ⟨(ad404.add ((x7_2).toNat * 8)).block, (ad404.add ((x7_2).toNat * 8)).off + 6, none⟩ = some (.int .i64 ((rd_T42 l0_3 x7_2).f6)) ∧ w'.cell? ⟨(ad404.add ((x7_2).toNat * 8)).block, (ad404.add ((x7_2).toNat * 8)).off + 7, none⟩ = some (.int .i64 ((rd_T42 l0_3 x7_2).f7))) (ds := []) #[false, false, false, false, false, false, false, false, false] (by kernel_rfl) rfl rfl ⟨(blk_cell BK402.out 0).trans rfl, (blk_cell BK402.out 1).trans rfl, (blk_cell BK402.out 2).trans rfl, (blk_cell BK402.out 3).trans rfl, (blk_cell BK402.out 4).trans rfl, ((HB.out.cell (World.block_lt_of_cell? w _ hw404_0)).trans hw404_0), ((HB.out.cell (World.block_lt_of_cell? w _ hw404_1)).trans hw404_1), ((HB.out.cell (World.block_lt_of_cell? w _ hw404_2)).trans hw404_2), ((HB.out.cell (World.block_lt_of_cell? w _ hw404_3)).trans hw404_3), ((HB.out.cell (World.block_lt_of_cell? w _ hw404_4)).trans hw404_4), ((HB.out.cell (World.block_lt_of_cell? w _ hw404_5)).trans hw404_5), ((HB.out.cell (World.block_lt_of_cell? w _ hw404_6)).trans hw404_6), ((HB.out.cell (World.block_lt_of_cell? w _ hw404_7)).trans hw404_7)⟩ (fun hHeld => ?_); refine with_tabW r08_Below.tab7 r08_Below.bits7 (fun HT_ HW_ => ?_)
      generalize wr.drew = w26 at HO_6 BK402 HB hx404_0 hx404_1 hx404_2 hx404_3 hx404_4 hx404_5 hx404_6 hx404_7 hHeld ⊢
      refine pS 1 (some 30) HT_ ?_
      refine pS 2 (some 31) HT_ ?_
      refine pS 4 (some 33) HT_ ?_
      refine tS 0 (some 29) HT_ HW_ hHeld ?_
      refine tS 3 (some 32) HT_ HW_ hHeld ?_
      refine pS 5 (some 34) HT_ ?_
      refine pS 6 (some 35) HT_ ?_
      refine tS 7 (some 36) HT_ HW_ hHeld ?_
      refine oS 8 (some 37) HT_ (fun K hK => ?_)
      refine goes_ Try.func35 (by kernel_rfl) rfl #[.agg #[.slice A0_0 l0_0.length c0_0, .slice A0_1 l0_1.length c0_1, .slice A0_2 l0_2.length c0_2, .slice (some ad404) l0_3.length c0_3, .slice A0_4 l0_4.length c0_4], .int .i64 a1, .int .i64 ((rd_T42 l0_3 x7_2).f1)] (by rfl) rfl rfl tL ?_
      refine (r08_On.calls k2 _ _ l0_0 _ _ l0_1 _ _ l0_2 _ _ l0_3 _ _ l0_4 a1 ((rd_T42 l0_3 x7_2).f1) false _ (sC HR0_0 HB) HC0_0.out (sC HR0_1 HB) HC0_1.out (sC HR0_2 HB) HC0_2.out (sC HR0_3 HB) HC0_3.out (sC HR0_4 HB) HC0_4.out A18.out).mono ?_
      rintro e w27 ⟨rfl, hb⟩
      refine ⟨_, rfl, ?_⟩
      replace HO_6 := Aside0.mk (Kd.R_below (kR HO_6) hb)
      replace BK402 := bK BK402 hb
      replace HB := bS (kB1 HB GE402) hb
      (try clear hb)
      (try clear hb2)
      (try clear hk)
      (try clear hi)
      refine hK.out _ _ ⟨(blk_cell BK402.out 0).trans rfl, (blk_cell BK402.out 1).trans rfl, (blk_cell BK402.out 2).trans rfl, (blk_cell BK402.out 3).trans rfl, (blk_cell BK402.out 4).trans rfl, ((HB.out.cell (World.block_lt_of_cell? w _ hw404_0)).trans hw404_0), ((HB.out.cell (World.block_lt_of_cell? w _ hw404_1)).trans hw404_1), ((HB.out.cell (World.block_lt_of_cell? w _ hw404_2)).trans hw404_2), ((HB.out.cell (World.block_lt_of_cell? w _ hw404_3)).trans hw404_3), ((HB.out.cell (World.block_lt_of_cell? w _ hw404_4)).trans hw404_4), ((HB.out.cell (World.block_lt_of_cell? w _ hw404_5)).trans hw404_5), ((HB.out.cell (World.block_lt_of_cell? w _ hw404_6)).trans hw404_6), ((HB.out.cell (World.block_lt_of_cell? w _ hw404_7)).trans hw404_7)⟩ (fun hHeld => ?_)
      clear hK K
      refine norm_ (a' := ?_) ?_ ?_
      rotate_left
      ·show Act.put _ (some 37) _ = _
       simp only [Act.put, List.setIfInBounds_toArray, List.set_cons_zero, List.set_cons_succ, i64_w, i32_w]
       rfl
      refine done_ (done_of HT_.out (by kernel_rfl)) ?_
      try go_wp2
      go_roundg k2
      case measure => have := HJ2.out; have := HK2.out; omega
      case rel => exact ⟨(x6_2), (wrap64 (x7_2 + 1)), tQ, H', ⟨kO2 HJ2 HK2⟩, ⟨kR HO_6⟩, ⟨kK BK402⟩, ⟨kB1 HB GE402⟩⟩
     subst c19
     replace H := ifT H
     by_cases c20 : x6_2.length < 17592186044416
     rotate_left
     ·rw [if_neg c20] at H
      exact absurd H (by simp)
     rw [if_pos c20] at H
     have LMc20 := Aside0.mk c20
     clear c20
     obtain ⟨y406, hy406⟩ : ∃ y_ : List Int, y_ = (x6_2 ++ [x7_2]) := ⟨_, rfl⟩
     replace H : (r08_Below.l0 k2 a1 y406 (wrap64 (x7_2 + 1)) l0_0 l0_1 l0_2 l0_3 l0_4) = some (r1, r2) := by first | (rw [hy406]; with_reducible exact H) | (have H2_ := (Option.bind_some _ _).symm.trans H; rw [hy406]; with_reducible exact H2_) | (have H2_ := (Option.bind_some _ _).symm.trans H; with_reducible exact H2_) | with_reducible exact H | (rw [hy406]; exact H) | exact H
     have Ny406 := Aside0.mk hy406
     clear hy406
     have H' := Aside0.mk H
     clear H
     obtain ⟨⟨_,_,_,_,_⟩,_,_,_,_,_⟩ := bx5 BK402
     try go_wp2
     replace HO_6 := Aside0.mk (Kd.R_drew HO_6.out)
     replace BK402 := Aside0.mk (blk_drew BK402.out)
     replace HB := Aside0.mk (below_drew1 HB.out)
     have p404 : 0 ≤ (x7_2 : Int) := tD
     have q404 : x7_2 < (l0_3.length : Int) := tD
     obtain ⟨ad404, e404, hx404_0, hx404_1, hx404_2, hx404_3, hx404_4, hx404_5, hx404_6, hx404_7⟩ := at_T42 HR0_3.out x7_2 p404 q404
     have hw404_7 := hx404_7
     have hw404_6 := hx404_6
     have hw404_5 := hx404_5
     have hw404_4 := hx404_4
     have hw404_3 := hx404_3
     have hw404_2 := hx404_2
     have hw404_1 := hx404_1
     have hw404_0 := hx404_0
     cases e404
     replace hx404_0 := cB HB hx404_0
     replace hx404_1 := cB HB hx404_1
     replace hx404_2 := cB HB hx404_2
     replace hx404_3 := cB HB hx404_3
     replace hx404_4 := cB HB hx404_4
     replace hx404_5 := cB HB hx404_5
     replace hx404_6 := cB HB hx404_6
     replace hx404_7 := cB HB hx404_7
     replace p404 := eq_true p404
     replace q404 := eq_true q404
     refine start_ (n := 9) (S := fun w' => w'.cell? ⟨gb402, 0, none⟩ = some (.slice A0_0 l0_0.length c0_0) ∧ w'.cell? ⟨gb402, 1, none⟩ = some (.slice A0_1 l0_1.length c0_1) ∧ w'.cell? ⟨gb402, 2, none⟩ = some (.slice A0_2 l0_2.length c0_2) ∧ w'.cell? ⟨gb402, 3, none⟩ = some (.slice (some ad404) l0_3.length c0_3) ∧ w'.cell? ⟨gb402, 4, none⟩ = some (.slice A0_4 l0_4.length c0_4) ∧ w'.cell? (ad404.add ((x7_2).toNat * 8)) = some (.string ((rd_T42 l0_3 x7_2).f0)) ∧ w'.cell? ⟨(ad404.add ((x7_2).toNat * 8)).block, (ad404.add ((x7_2).toNat * 8)).off + 1, none⟩ = some (.int .i64 ((rd_T42 l0_3 x7_2).f1)) ∧ w'.cell? ⟨(ad404.add ((x7_2).toNat * 8)).block, (ad404.add ((x7_2).toNat * 8)).off + 2, none⟩ = some (.int .i64 ((rd_T42 l0_3 x7_2).f2)) ∧ w'.cell? ⟨(ad404.add ((x7_2).toNat * 8)).block, (ad404.add ((x7_2).toNat * 8)).off + 3, none⟩ = some (.int .i64 ((rd_T42 l0_3 x7_2).f3)) ∧ w'.cell? ⟨(ad404.add ((x7_2).toNat * 8)).block, (ad404.add ((x7_2).toNat * 8)).off + 4, none⟩ = some (.int .i64 ((rd_T42 l0_3 x7_2).f4)) ∧ w'.cell? ⟨(ad404.add ((x7_2).toNat * 8)).block, (ad404.add ((x7_2).toNat * 8)).off + 5, none⟩ = some (.int .i64 ((rd_T42 l0_3 x7_2).f5)) ∧ w'.cell? ⟨(ad404.add ((x7_2).toNat * 8)).block, (ad404.add ((x7_2).toNat * 8)).off + 6, none⟩ = some (.int .i64 ((rd_T42 l0_3 x7_2).f6)) ∧ w'.cell? ⟨(ad404.add ((x7_2).toNat * 8)).block, (ad404.add ((x7_2).toNat * 8)).off + 7, none⟩ = some (.int .i64 ((rd_T42 l0_3 x7_2).f7))) (ds := []) #[false, false, false, false, false, false, false, false, false] (by kernel_rfl) rfl rfl ⟨(blk_cell BK402.out 0).trans rfl, (blk_cell BK402.out 1).trans rfl, (blk_cell BK402.out 2).trans rfl, (blk_cell BK402.out 3).trans rfl, (blk_cell BK402.out 4).trans rfl, ((HB.out.cell (World.block_lt_of_cell? w _ hw404_0)).trans hw404_0), ((HB.out.cell (World.block_lt_of_cell? w _ hw404_1)).trans hw404_1), ((HB.out.cell (World.block_lt_of_cell? w _ hw404_2)).trans hw404_2), ((HB.out.cell (World.block_lt_of_cell? w _ hw404_3)).trans hw404_3), ((HB.out.cell (World.block_lt_of_cell? w _ hw404_4)).trans hw404_4), ((HB.out.cell (World.block_lt_of_cell? w _ hw404_5)).trans hw404_5), ((HB.out.cell (World.block_lt_of_cell? w _ hw404_6)).trans hw404_6), ((HB.out.cell (World.block_lt_of_cell? w _ hw404_7)).trans hw404_7)⟩ (fun hHeld => ?_); refine with_tabW r08_Below.tab7 r08_Below.bits7 (fun HT_ HW_ => ?_)
     generalize wr.drew = w22 at HO_6 BK402 HB hx404_0 hx404_1 hx404_2 hx404_3 hx404_4 hx404_5 hx404_6 hx404_7 hHeld ⊢
     refine pS 1 (some 30) HT_ ?_
     refine pS 2 (some 31) HT_ ?_
     refine pS 4 (some 33) HT_ ?_
     refine tS 0 (some 29) HT_ HW_ hHeld ?_
     refine tS 3 (some 32) HT_ HW_ hHeld ?_
     refine pS 5 (some 34) HT_ ?_
     refine pS 6 (some 35) HT_ ?_
     refine tS 7 (some 36) HT_ HW_ hHeld ?_
     refine oS 8 (some 37) HT_ (fun K hK => ?_)
     refine goes_ Try.func35 (by kernel_rfl) rfl #[.agg #[.slice A0_0 l0_0.length c0_0, .slice A0_1 l0_1.length c0_1, .slice A0_2 l0_2.length c0_2, .slice (some ad404) l0_3.length c0_3, .slice A0_4 l0_4.length c0_4], .int .i64 a1, .int .i64 ((rd_T42 l0_3 x7_2).f1)] (by rfl) rfl rfl tL ?_
     refine (r08_On.calls k2 _ _ l0_0 _ _ l0_1 _ _ l0_2 _ _ l0_3 _ _ l0_4 a1 ((rd_T42 l0_3 x7_2).f1) true _ (sC HR0_0 HB) HC0_0.out (sC HR0_1 HB) HC0_1.out (sC HR0_2 HB) HC0_2.out (sC HR0_3 HB) HC0_3.out (sC HR0_4 HB) HC0_4.out A18.out).mono ?_
     rintro e w23 ⟨rfl, hb⟩
     refine ⟨_, rfl, ?_⟩
     replace HO_6 := Aside0.mk (Kd.R_below (kR HO_6) hb)
     replace BK402 := bK BK402 hb
     replace HB := bS (kB1 HB GE402) hb
     (try clear hb)
     (try clear hb2)
     (try clear hk)
     (try clear hi)
     refine hK.out _ _ ⟨(blk_cell BK402.out 0).trans rfl, (blk_cell BK402.out 1).trans rfl, (blk_cell BK402.out 2).trans rfl, (blk_cell BK402.out 3).trans rfl, (blk_cell BK402.out 4).trans rfl, ((HB.out.cell (World.block_lt_of_cell? w _ hw404_0)).trans hw404_0), ((HB.out.cell (World.block_lt_of_cell? w _ hw404_1)).trans hw404_1), ((HB.out.cell (World.block_lt_of_cell? w _ hw404_2)).trans hw404_2), ((HB.out.cell (World.block_lt_of_cell? w _ hw404_3)).trans hw404_3), ((HB.out.cell (World.block_lt_of_cell? w _ hw404_4)).trans hw404_4), ((HB.out.cell (World.block_lt_of_cell? w _ hw404_5)).trans hw404_5), ((HB.out.cell (World.block_lt_of_cell? w _ hw404_6)).trans hw404_6), ((HB.out.cell (World.block_lt_of_cell? w _ hw404_7)).trans hw404_7)⟩ (fun hHeld => ?_)
     clear hK K
     refine norm_ (a' := ?_) ?_ ?_
     rotate_left
     ·show Act.put _ (some 37) _ = _
      simp only [Act.put, List.setIfInBounds_toArray, List.set_cons_zero, List.set_cons_succ, i64_w, i32_w]
      rfl
     refine done_ (done_of HT_.out (by kernel_rfl)) ?_
     try go_wp2_with (first | ((with_reducible refine gate_builtin (b := .append) (xs := #[.tmp 38, .tmp 40]) rfl ?_); (try (refine gate_guard (by rfl) ?_; dsimp only)); at_builtin; refine Kd.R_append (Kd.int .i64) (w0 := w) w.heap.size rfl (.tmp 38) (.tmp 40) 29 3 (.int .i64 0) 8 rfl Try.underlying29 info3 rfl (by decide) (by omega) u6 x6_2 x7_2 [.int .i64 x7_2] (fun _ => True) (fun _ => False) rfl rfl ?aP (fun _ hk => hk.elim) ?aF ?aO ?aB ?aS ?aL ?_; (case aP => exact rfl); (case aB => exact (kB1 HB GE402)); (case aF => exact (fun _ _ => trivial)); (case aO => exact (kR HO_6)); (case aS => exact (below_size (kB1 HB GE402))); (case aL => have := LMc20.out; omega); intro v407 w24 ho hb hg hat; rw [← Ny406.out] at ho; replace BK402 := Aside0.mk (blk_grown (g := gb402) (o := .cells #[.slice A0_0 l0_0.length c0_0, .slice A0_1 l0_1.length c0_1, .slice A0_2 l0_2.length c0_2, .slice (some ad404) l0_3.length c0_3, .slice A0_4 l0_4.length c0_4] 28 (0, 0)) (kK BK402) hg (Kd.R_ne HO_6.out BK402.out (by decide))); replace HB := Aside0.mk hb; have HO408 := Aside0.mk ho; clear HO_6; clear ho hb hg hat))
     go_roundg k2
     case measure => have := HJ2.out; have := HK2.out; omega
     case rel => exact ⟨(y406), (wrap64 (x7_2 + 1)), tQ, H', ⟨kO2 HJ2 HK2⟩, ⟨kR HO408⟩, ⟨kK BK402⟩, ⟨kB1 HB GE402⟩⟩
end Go.Proofs.Ytpdmnineampimaa.Q
