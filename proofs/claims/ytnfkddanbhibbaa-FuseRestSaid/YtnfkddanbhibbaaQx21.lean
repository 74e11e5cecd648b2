-- Written by a program of this session (wip/tools/mk.py), through the kit's print program.
import Derived.Test.YtnfkddanbhibbaaQx0
import Derived.Test.YtnfkddanbhibbaaQx5
import Derived.Test.YtnfkddanbhibbaaQx6
import Derived.Test.YtnfkddanbhibbaaQx8
import Derived.Test.YtnfkddanbhibbaaQx9
import Derived.Test.YtnfkddanbhibbaaQx11
namespace Go.Proofs.Ytnfkddanbhibbaa.Q
open Go.RowKit Go.Proofs.YtnfkddanbhibbaaW.PrintWords Go.Proofs.YtnfkddanbhibbaaW.PrintLast Go.Proofs.YtnfkddanbhibbaaW.PrintMore
attribute [local go_sem] max2_int min2_int max_two min_two max_three min_three max_four min_four   -- for this text's walks alone
set_option linter.unusedVariables false
set_option linter.unusedSimpArgs false

/-! ### chargeparklaw06_FuseRest: function 8 -/
mutual
def chargeparklaw06_FuseRest.j0 : Nat → List Int → Int → Int → Bool → Bool → Int → Int → Option (Bool)
  | 0, _, _, _, _, _, _, _ => none
  | k + 1, x1, x2, x3, x9, x28, x230000, x230001 => if x28 = true then (some x9) else ((fuse_Melts.f x230000 x230001 x1).bind fun bt231 => (if 0 ≤ x2 then (if x2 ≤ (wrap64 (x2 + (x1.length : Int))) then (if (wrap64 (x2 + (x1.length : Int)) : Int).toNat ≤ 35184372088832 then ((some (List.replicate (x2 : Int).toNat 0 : List Int)).bind fun y233 => (if y233.length + x1.length < 17592186044416 then ((fuse_Melts.f x230000 x230001 (y233 ++ x1)).bind fun bt239 => (if x9 = true then (if bt231.2 = bt239.2 then (if bt231.2 = 0 then (if bt231.1 = (-1) then (if bt239.1 = (-1) then (chargeparklaw06_FuseRest.j1 k x2 x3 true x230000 x230001) else (if bt231.1 ≥ 0 then (chargeparklaw06_FuseRest.j1 k x2 x3 (bt239.1 == (wrap64 (bt231.1 + x2))) x230000 x230001) else (chargeparklaw06_FuseRest.j1 k x2 x3 false x230000 x230001))) else (if bt231.1 ≥ 0 then (chargeparklaw06_FuseRest.j1 k x2 x3 (bt239.1 == (wrap64 (bt231.1 + x2))) x230000 x230001) else (chargeparklaw06_FuseRest.j1 k x2 x3 false x230000 x230001))) else (chargeparklaw06_FuseRest.j1 k x2 x3 true x230000 x230001)) else (chargeparklaw06_FuseRest.j1 k x2 x3 false x230000 x230001)) else (chargeparklaw06_FuseRest.j1 k x2 x3 false x230000 x230001))) else (none))) else (none)) else (none)) else (none)))
def chargeparklaw06_FuseRest.j1 : Nat → Int → Int → Bool → Int → Int → Option (Bool)
  | 0, _, _, _, _, _ => none
  | k + 1, x2, x3, x9, x230000, x230001 => chargeparklaw06_FuseRest.l0 k x2 x3 x9 0 x230000 x230001
def chargeparklaw06_FuseRest.l0 : Nat → Int → Int → Bool → Int → Int → Int → Option (Bool)
  | 0, _, _, _, _, _, _ => none
  | k + 1, x2, x3, x9, x14, x230000, x230001 => if x14 < x2 then ((fuse_Next.f x230000 x230001 x3 0).bind fun bt241 => (if bt241.2 = 0 then (if x9 = true then (if bt241.1 < x3 then (chargeparklaw06_FuseRest.l0 k x2 bt241.1 (bt241.1 == (mx 0 (wrap64 (x3 - (wrap64 (x230000 * x230000)))))) (wrap64 (x14 + 1)) x230000 x230001) else (if bt241.1 = 0 then (chargeparklaw06_FuseRest.l0 k x2 bt241.1 (bt241.1 == (mx 0 (wrap64 (x3 - (wrap64 (x230000 * x230000)))))) (wrap64 (x14 + 1)) x230000 x230001) else (chargeparklaw06_FuseRest.l0 k x2 bt241.1 false (wrap64 (x14 + 1)) x230000 x230001))) else (chargeparklaw06_FuseRest.l0 k x2 bt241.1 false (wrap64 (x14 + 1)) x230000 x230001)) else (if x9 = true then (some (x14 == 0)) else (some false)))) else (some x9)
end
def chargeparklaw06_FuseRest.f (k : Nat) (a0_0 : Int) (a0_1 : Int) (l1 : List Int) (a2 : Int) (a3 : Int) : Option (Bool) := (chargeparklaw06_head.f).bind fun t230 => (if (l1.length : Int) > 5000 then (chargeparklaw06_FuseRest.j0 k l1 a2 a3 t230 true a0_0 a0_1) else (if a2 < 0 then (chargeparklaw06_FuseRest.j0 k l1 a2 a3 t230 true a0_0 a0_1) else (chargeparklaw06_FuseRest.j0 k l1 a2 a3 t230 (decide (a2 > 5000)) a0_0 a0_1)))
theorem chargeparklaw06_FuseRest.mono_l : ∀ k, (∀ y0 y1 y2 y3 y4 y5 y6, LeO (chargeparklaw06_FuseRest.j0 k y0 y1 y2 y3 y4 y5 y6) (chargeparklaw06_FuseRest.j0 (k + 1) y0 y1 y2 y3 y4 y5 y6)) ∧ (∀ y0 y1 y2 y3 y4, LeO (chargeparklaw06_FuseRest.j1 k y0 y1 y2 y3 y4) (chargeparklaw06_FuseRest.j1 (k + 1) y0 y1 y2 y3 y4)) ∧ (∀ y0 y1 y2 y3 y4 y5, LeO (chargeparklaw06_FuseRest.l0 k y0 y1 y2 y3 y4 y5) (chargeparklaw06_FuseRest.l0 (k + 1) y0 y1 y2 y3 y4 y5))
  | 0 => ⟨fun _ _ _ _ _ _ _ r h => by simp [chargeparklaw06_FuseRest.j0] at h, fun _ _ _ _ _ r h => by simp [chargeparklaw06_FuseRest.j1] at h, fun _ _ _ _ _ _ r h => by simp [chargeparklaw06_FuseRest.l0] at h⟩
  | k + 1 => by
    obtain ⟨ih0, ih1, ih2⟩ := chargeparklaw06_FuseRest.mono_l k
    refine ⟨?_, ?_, ?_⟩
    · intro y0 y1 y2 y3 y4 y5 y6
      unfold chargeparklaw06_FuseRest.j0
      repeat' first
      | (with_reducible exact ih0 _ _ _ _ _ _ _)
      | (with_reducible exact ih1 _ _ _ _ _)
      | (with_reducible exact ih2 _ _ _ _ _ _)
      | (with_reducible exact LeO.refl _)
      | (with_reducible exact LeO.none _)
      | (with_reducible refine LeO.ite ?_ ?_)
      | (with_reducible refine LeO.bind ?_ (fun _ => ?_))
      | exact ih0 _ _ _ _ _ _ _
      | exact ih1 _ _ _ _ _
      | exact ih2 _ _ _ _ _ _
      | exact LeO.none _
      | refine LeO.ite ?_ ?_
      | refine LeO.bind ?_ (fun _ => ?_)
    · intro y0 y1 y2 y3 y4
      unfold chargeparklaw06_FuseRest.j1
      repeat' first
      | (with_reducible exact ih0 _ _ _ _ _ _ _)
      | (with_reducible exact ih1 _ _ _ _ _)
      | (with_reducible exact ih2 _ _ _ _ _ _)
      | (with_reducible exact LeO.refl _)
      | (with_reducible exact LeO.none _)
      | (with_reducible refine LeO.ite ?_ ?_)
      | (with_reducible refine LeO.bind ?_ (fun _ => ?_))
      | exact ih0 _ _ _ _ _ _ _
      | exact ih1 _ _ _ _ _
      | exact ih2 _ _ _ _ _ _
      | exact LeO.none _
      | refine LeO.ite ?_ ?_
      | refine LeO.bind ?_ (fun _ => ?_)
    · intro y0 y1 y2 y3 y4 y5
      unfold chargeparklaw06_FuseRest.l0
      repeat' first
      | (with_reducible exact ih0 _ _ _ _ _ _ _)
      | (with_reducible exact ih1 _ _ _ _ _)
      | (with_reducible exact ih2 _ _ _ _ _ _)
      | (with_reducible exact LeO.refl _)
      | (with_reducible exact LeO.none _)
      | (with_reducible refine LeO.ite ?_ ?_)
      | (with_reducible refine LeO.bind ?_ (fun _ => ?_))
      | exact ih0 _ _ _ _ _ _ _
      | exact ih1 _ _ _ _ _
      | exact ih2 _ _ _ _ _ _
      | exact LeO.none _
      | refine LeO.ite ?_ ?_
      | refine LeO.bind ?_ (fun _ => ?_)
theorem chargeparklaw06_FuseRest.mono : ∀ a0 a1 a2 a3 a4 k, LeO (chargeparklaw06_FuseRest.f k a0 a1 a2 a3 a4) (chargeparklaw06_FuseRest.f (k + 1) a0 a1 a2 a3 a4) := by
  intro a0 a1 a2 a3 a4 k
  obtain ⟨ih0, ih1, ih2⟩ := chargeparklaw06_FuseRest.mono_l k
  unfold chargeparklaw06_FuseRest.f
  repeat' first
      | (with_reducible exact ih0 _ _ _ _ _ _ _)
      | (with_reducible exact ih1 _ _ _ _ _)
      | (with_reducible exact ih2 _ _ _ _ _ _)
      | (with_reducible exact LeO.refl _)
      | (with_reducible exact LeO.none _)
      | (with_reducible refine LeO.ite ?_ ?_)
      | (with_reducible refine LeO.bind ?_ (fun _ => ?_))
      | exact ih0 _ _ _ _ _ _ _
      | exact ih1 _ _ _ _ _
      | exact ih2 _ _ _ _ _ _
      | exact LeO.none _
      | refine LeO.ite ?_ ?_
      | refine LeO.bind ?_ (fun _ => ?_)
def chargeparklaw06_FuseRest.T5 : Bool × List (List Nat × List Nat) := (true, [([], []), ([], []), ([], []), ([], []), ([3], [3]), ([2, 4], [2, 4]), ([1, 5], [1, 5]), ([], []), ([6, 7], [6, 7]), ([0, 8, 8], [0, 8]), ([9], [9]), ([10], [10]), ([10], [10]), ([11, 9, 0, 1, 2, 3, 4, 5, 6, 7, 8, 9, 10, 11], [11]), ([12, 13, 0, 1, 2, 3, 4, 5, 6, 7, 8, 9, 10, 11, 12, 13], [12])])
def chargeparklaw06_FuseRest.B5 : List Nat := [0, 0, 0, 0, 8, 28, 62, 0, 254, 511, 1023, 2047, 2047, 4095, 16383]
theorem chargeparklaw06_FuseRest.tab5 : rtab .any (opsOf Try.f8 5) = chargeparklaw06_FuseRest.T5 := by kernel_rfl
theorem chargeparklaw06_FuseRest.bits5 : waitsOk chargeparklaw06_FuseRest.T5.2 chargeparklaw06_FuseRest.B5 = true := by kernel_rfl
set_option maxHeartbeats 8000000 in
set_option maxRecDepth 100000 in
theorem chargeparklaw06_FuseRest.calls (k : Nat) (a0_0 : Int) (a0_1 : Int) (A1 : Option Addr) (c1 : Nat) (l1 : List Int) (a2 : Int) (a3 : Int) (r : Bool) (w : World) (hr1 : Kd.C (Kd.int .i64) w A1 l1.length l1) (hc1 : l1.length ≤ c1) (h : chargeparklaw06_FuseRest.f k a0_0 a0_1 l1 a2 a3 = some r) :
    Calls Try.prog 8 #[.agg #[.int .i64 a0_0, .int .i64 a0_1], .slice A1 l1.length c1, .int .i64 a2, .int .i64 a3] w fun e w' => e = .returned (.bool r) ∧ Below w.heap.size w w' := by
  have hu23 := Try.underlying23
  have HR1 := Aside0.mk hr1
  have HC1 := Aside0.mk hc1
  clear hr1 hc1
  have HB := Aside0.mk (Below.refl w.heap.size w)
  have H : ((chargeparklaw06_head.f).bind fun t230 => (if (l1.length : Int) > 5000 then (chargeparklaw06_FuseRest.j0 k l1 a2 a3 t230 true a0_0 a0_1) else (if a2 < 0 then (chargeparklaw06_FuseRest.j0 k l1 a2 a3 t230 true a0_0 a0_1) else (chargeparklaw06_FuseRest.j0 k l1 a2 a3 t230 (decide (a2 > 5000)) a0_0 a0_1)))) = some r := h
  clear h
  replace H := Option.bind_eq_some_iff.mp H
  obtain ⟨t230, A50, H⟩ := H
  replace H : (if (l1.length : Int) > 5000 then (chargeparklaw06_FuseRest.j0 k l1 a2 a3 t230 true a0_0 a0_1) else (if a2 < 0 then (chargeparklaw06_FuseRest.j0 k l1 a2 a3 t230 true a0_0 a0_1) else (chargeparklaw06_FuseRest.j0 k l1 a2 a3 t230 (decide (a2 > 5000)) a0_0 a0_1))) = some r := H
  have A5 := Aside0.mk A50
  clear A50
  have HC6 := Aside0.mk H
  clear H
  go_enter Try.func8, Try.ntmps8
  go_upto_region 2 with (first | ((with_reducible refine gate_dst (N := 4) rfl ?_); (try (refine gate_guard (by rfl) ?_; dsimp only)); refine box_event ?hg (N := 4) ?hd (cs := #[.int .i64 a0_0, .int .i64 a0_1]) (t := 23) ?hr ?_; (case hd => rfl); (case hg => rfl); (case hr => first | (go_simp; done) | (go_simp; rfl)); intro gb229 hg w7 hbox hb; have n0_ := Aside0.mk (below_step (by repeat (first | (with_reducible first | exact HB.out | apply below_alloc | apply pw_below_drewN | apply below_drew1) | exact HB.out)) hb); have n1_ := Aside0.mk (hbox); have n2_ := Aside0.mk ((by rw [hg]; exact (below_size (by repeat (first | (with_reducible first | exact HB.out | apply below_alloc | apply pw_below_drewN | apply below_drew1) | exact HB.out))) : w.heap.size ≤ gb229)); have n3_ := Aside0.mk ((by rw [hg]; exact (below_size (by repeat (first | (with_reducible first | exact HB.out | apply below_alloc | apply pw_below_drewN | apply below_drew1) | exact HB.out))) : w.heap.size ≤ gb229)); clear HB; have HB := n0_; have BK229 := n1_; have GW229 := n2_; have GE229 := n3_; clear n0_ n1_ n2_ n3_; clear hb hbox hg) | ((with_reducible refine gate_callee (f := 10) rfl ?_); refine goesL_ (some 17) rfl rfl Try.func10 (by kernel_rfl) rfl #[] rfl (by (try simp only [List.map_toArray, List.map_cons, List.map_nil]); first | done | rfl | (simp only [List.length_drop, List.length_take]; rfl)) ?_; (with_reducible refine (chargeparklaw06_head.calls  t230 _ A5.out).mono ?_); rintro e w8 ⟨rfl, hb⟩; refine ⟨_, rfl, ?_⟩; have n0_ := Aside0.mk (blk_below (g := gb229) (o := .cells #[.int .i64 a0_0, .int .i64 a0_1] 23 (0, 0)) (by (with_reducible repeat (first | refine blk_drewN ?_ _ | refine blk_drew ?_ | refine blk_alloc ?_ _)); exact BK229.out) hb); have n1_ := Aside0.mk (below_step (by repeat (first | (with_reducible first | exact HB.out | apply below_alloc | apply pw_below_drewN | apply below_drew1 | refine below_set ?_ GE229.out) | exact HB.out)) hb); clear BK229; clear HB; have BK229 := n0_; have HB := n1_; clear n0_ n1_; (try clear hb); (try clear hb2); (try clear hk); (try clear hi)))
  (try simp only [Act.put, List.setIfInBounds_toArray, List.set_cons_zero, List.set_cons_succ])
  go_cut [28] (fun v28 wc => ∃ (kq : Nat) (x28_5 : Bool), v28 = .bool x28_5 ∧ Aside0 (chargeparklaw06_FuseRest.j0 kq l1 a2 a3 t230 x28_5 a0_0 a0_1 = some r) ∧ Aside0 (kq ≤ k) ∧ Aside0 (wc.heap[gb229]? = some (.cells #[.int .i64 a0_0, .int .i64 a0_1] 23 (0, 0))) ∧ Aside0 (Below w.heap.size w wc))
  case first =>
    have H := HC6.out
    clear HC6
    by_cases c9 : (l1.length : Int) > 5000
    · rw [if_pos c9] at H
      have c9b0 : decide (5000 < (l1.length : Int)) = true := decide_eq_true c9
      have c9b1 : decide (5000 < l1.length) = true := decide_eq_true (by omega)
      clear c9
      (first | rw [c9b0] | (simp only [i64_w, i32_w]; rw [c9b0]) | skip)
      have H' := Aside0.mk H
      clear H
      go_wp2
      go_meet
      case rel => exact ⟨_, (true), (by first | rfl | (simp; done) | (simp [*]; done)), H', ⟨by first | omega | exact Nat.le_refl _⟩, ⟨by (with_reducible repeat (first | refine blk_drewN ?_ _ | refine blk_drew ?_ | refine blk_alloc ?_ _)); exact BK229.out⟩, ⟨by repeat (first | (with_reducible first | exact HB.out | apply below_alloc | apply pw_below_drewN | apply below_drew1 | refine below_set ?_ GE229.out) | exact HB.out)⟩⟩
    · rw [if_neg c9] at H
      have c9b0 : decide (5000 < (l1.length : Int)) = false := decide_eq_false c9
      have c9b1 : decide (5000 < l1.length) = false := decide_eq_false (by omega)
      clear c9
      (first | rw [c9b0] | (simp only [i64_w, i32_w]; rw [c9b0]) | skip)
      by_cases c10 : a2 < 0
      · rw [if_pos c10] at H
        have c10b0 : decide (a2 < 0) = true := decide_eq_true c10
        clear c10
        have H' := Aside0.mk H
        clear H
        go_wp2
        go_meet
        case rel => exact ⟨_, (true), (by first | rfl | (simp; done) | (simp [*]; done)), H', ⟨by first | omega | exact Nat.le_refl _⟩, ⟨by (with_reducible repeat (first | refine blk_drewN ?_ _ | refine blk_drew ?_ | refine blk_alloc ?_ _)); exact BK229.out⟩, ⟨by repeat (first | (with_reducible first | exact HB.out | apply below_alloc | apply pw_below_drewN | apply below_drew1 | refine below_set ?_ GE229.out) | exact HB.out)⟩⟩
      · rw [if_neg c10] at H
        have c10b0 : decide (a2 < 0) = false := decide_eq_false c10
        clear c10
        have H' := Aside0.mk H
        clear H
        go_wp2
        go_meet
        case rel => exact ⟨_, (decide (a2 > 5000)), (by first | rfl | (simp; done) | (simp [*]; done)), H', ⟨by first | omega | exact Nat.le_refl _⟩, ⟨by (with_reducible repeat (first | refine blk_drewN ?_ _ | refine blk_drew ?_ | refine blk_alloc ?_ _)); exact BK229.out⟩, ⟨by repeat (first | (with_reducible first | exact HB.out | apply below_alloc | apply pw_below_drewN | apply below_drew1 | refine below_set ?_ GE229.out) | exact HB.out)⟩⟩
  case rest =>
    clear HC6
    try clear c1
    try clear p2
    try clear c8
    try clear c9
    try clear c9b0
    try clear c9b1
    try clear c10
    try clear c10b0
    obtain ⟨kq, x28_5, rfl, HA, HJ5, BK229, HB⟩ := hcut
    cases kq with
    | zero => exact absurd HA.out (by simp [chargeparklaw06_FuseRest.j0])
    | succ kj5 =>
      have H := HA.out
      clear HA
      simp only [chargeparklaw06_FuseRest.j0] at H
      by_cases c11 : x28_5 = true
      · subst c11
        have H1 : (some t230) = some r := by rw [if_pos rfl] at H; exact H
        clear H
        have H := H1
        clear H1
        obtain rfl := Option.some.inj H
        go_wp2
        go_ret
        exact ⟨by first | rfl | (simp [errW_none, errW_some] <;> rfl) | (simp [*, errW_none, errW_some] <;> rfl), by repeat (first | (with_reducible first | exact HB.out | apply below_alloc | apply pw_below_drewN | apply below_drew1 | refine below_set ?_ GE229.out) | exact HB.out)⟩
      · replace c11 := Bool.eq_false_iff.mpr c11
        subst c11
        have H1 : ((fuse_Melts.f a0_0 a0_1 l1).bind fun bt231 => (if 0 ≤ a2 then (if a2 ≤ (wrap64 (a2 + (l1.length : Int))) then (if (wrap64 (a2 + (l1.length : Int)) : Int).toNat ≤ 35184372088832 then ((some (List.replicate (a2 : Int).toNat 0 : List Int)).bind fun y233 => (if y233.length + l1.length < 17592186044416 then ((fuse_Melts.f a0_0 a0_1 (y233 ++ l1)).bind fun bt239 => (if t230 = true then (if bt231.2 = bt239.2 then (if bt231.2 = 0 then (if bt231.1 = (-1) then (if bt239.1 = (-1) then (chargeparklaw06_FuseRest.j1 kj5 a2 a3 true a0_0 a0_1) else (if bt231.1 ≥ 0 then (chargeparklaw06_FuseRest.j1 kj5 a2 a3 (bt239.1 == (wrap64 (bt231.1 + a2))) a0_0 a0_1) else (chargeparklaw06_FuseRest.j1 kj5 a2 a3 false a0_0 a0_1))) else (if bt231.1 ≥ 0 then (chargeparklaw06_FuseRest.j1 kj5 a2 a3 (bt239.1 == (wrap64 (bt231.1 + a2))) a0_0 a0_1) else (chargeparklaw06_FuseRest.j1 kj5 a2 a3 false a0_0 a0_1))) else (chargeparklaw06_FuseRest.j1 kj5 a2 a3 true a0_0 a0_1)) else (chargeparklaw06_FuseRest.j1 kj5 a2 a3 false a0_0 a0_1)) else (chargeparklaw06_FuseRest.j1 kj5 a2 a3 false a0_0 a0_1))) else (none))) else (none)) else (none)) else (none))) = some r := by rw [if_neg (show ¬ (false = true) by decide)] at H; exact H
        clear H
        have H := H1
        clear H1
        replace H := Option.bind_eq_some_iff.mp H
        obtain ⟨⟨t231, t232⟩, A120, H⟩ := H
        replace H : (if 0 ≤ a2 then (if a2 ≤ (wrap64 (a2 + (l1.length : Int))) then (if (wrap64 (a2 + (l1.length : Int)) : Int).toNat ≤ 35184372088832 then ((some (List.replicate (a2 : Int).toNat 0 : List Int)).bind fun y233 => (if y233.length + l1.length < 17592186044416 then ((fuse_Melts.f a0_0 a0_1 (y233 ++ l1)).bind fun bt239 => (if t230 = true then (if t232 = bt239.2 then (if t232 = 0 then (if t231 = (-1) then (if bt239.1 = (-1) then (chargeparklaw06_FuseRest.j1 kj5 a2 a3 true a0_0 a0_1) else (if t231 ≥ 0 then (chargeparklaw06_FuseRest.j1 kj5 a2 a3 (bt239.1 == (wrap64 (t231 + a2))) a0_0 a0_1) else (chargeparklaw06_FuseRest.j1 kj5 a2 a3 false a0_0 a0_1))) else (if t231 ≥ 0 then (chargeparklaw06_FuseRest.j1 kj5 a2 a3 (bt239.1 == (wrap64 (t231 + a2))) a0_0 a0_1) else (chargeparklaw06_FuseRest.j1 kj5 a2 a3 false a0_0 a0_1))) else (chargeparklaw06_FuseRest.j1 kj5 a2 a3 true a0_0 a0_1)) else (chargeparklaw06_FuseRest.j1 kj5 a2 a3 false a0_0 a0_1)) else (chargeparklaw06_FuseRest.j1 kj5 a2 a3 false a0_0 a0_1))) else (none))) else (none)) else (none)) else (none)) = some r := H
        have A12 := Aside0.mk A120
        clear A120
        by_cases c13 : 0 ≤ a2
        · rw [if_pos c13] at H
          have c13b0 := eq_true c13
          have c13b1 : decide (0 ≤ a2) = true := decide_eq_true c13
          clear c13
          by_cases c14 : a2 ≤ (wrap64 (a2 + (l1.length : Int)))
          · rw [if_pos c14] at H
            have c14b0 := eq_true c14
            have c14b1 : decide (a2 ≤ (wrap64 (a2 + (l1.length : Int)))) = true := decide_eq_true c14
            by_cases c15 : (wrap64 (a2 + (l1.length : Int)) : Int).toNat ≤ 35184372088832
            · rw [if_pos c15] at H
              have c15b0 := eq_true c15
              have c15b1 : decide ((wrap64 (a2 + (l1.length : Int)) : Int).toNat ≤ 35184372088832) = true := decide_eq_true c15
              obtain ⟨y233, hy233⟩ : ∃ y_ : List Int, y_ = (List.replicate (a2 : Int).toNat 0) := ⟨_, rfl⟩
              replace H : (if y233.length + l1.length < 17592186044416 then ((fuse_Melts.f a0_0 a0_1 (y233 ++ l1)).bind fun bt239 => (if t230 = true then (if t232 = bt239.2 then (if t232 = 0 then (if t231 = (-1) then (if bt239.1 = (-1) then (chargeparklaw06_FuseRest.j1 kj5 a2 a3 true a0_0 a0_1) else (if t231 ≥ 0 then (chargeparklaw06_FuseRest.j1 kj5 a2 a3 (bt239.1 == (wrap64 (t231 + a2))) a0_0 a0_1) else (chargeparklaw06_FuseRest.j1 kj5 a2 a3 false a0_0 a0_1))) else (if t231 ≥ 0 then (chargeparklaw06_FuseRest.j1 kj5 a2 a3 (bt239.1 == (wrap64 (t231 + a2))) a0_0 a0_1) else (chargeparklaw06_FuseRest.j1 kj5 a2 a3 false a0_0 a0_1))) else (chargeparklaw06_FuseRest.j1 kj5 a2 a3 true a0_0 a0_1)) else (chargeparklaw06_FuseRest.j1 kj5 a2 a3 false a0_0 a0_1)) else (chargeparklaw06_FuseRest.j1 kj5 a2 a3 false a0_0 a0_1))) else (none)) = some r := by first | (rw [hy233]; with_reducible exact H) | (have H2_ := (Option.bind_some _ _).symm.trans H; rw [hy233]; with_reducible exact H2_) | (have H2_ := (Option.bind_some _ _).symm.trans H; with_reducible exact H2_) | with_reducible exact H | (rw [hy233]; exact H) | exact H
              have Ny233 := Aside0.mk hy233
              clear hy233
              by_cases c16 : y233.length + l1.length < 17592186044416
              · rw [if_pos c16] at H
                have LMc16 := Aside0.mk c16
                clear c16
                obtain ⟨y236, hy236⟩ : ∃ y_ : List Int, y_ = (y233 ++ l1) := ⟨_, rfl⟩
                replace H : ((fuse_Melts.f a0_0 a0_1 y236).bind fun bt239 => (if t230 = true then (if t232 = bt239.2 then (if t232 = 0 then (if t231 = (-1) then (if bt239.1 = (-1) then (chargeparklaw06_FuseRest.j1 kj5 a2 a3 true a0_0 a0_1) else (if t231 ≥ 0 then (chargeparklaw06_FuseRest.j1 kj5 a2 a3 (bt239.1 == (wrap64 (t231 + a2))) a0_0 a0_1) else (chargeparklaw06_FuseRest.j1 kj5 a2 a3 false a0_0 a0_1))) else (if t231 ≥ 0 then (chargeparklaw06_FuseRest.j1 kj5 a2 a3 (bt239.1 == (wrap64 (t231 + a2))) a0_0 a0_1) else (chargeparklaw06_FuseRest.j1 kj5 a2 a3 false a0_0 a0_1))) else (chargeparklaw06_FuseRest.j1 kj5 a2 a3 true a0_0 a0_1)) else (chargeparklaw06_FuseRest.j1 kj5 a2 a3 false a0_0 a0_1)) else (chargeparklaw06_FuseRest.j1 kj5 a2 a3 false a0_0 a0_1))) = some r := by first | (rw [hy236]; with_reducible exact H) | (have H2_ := (Option.bind_some _ _).symm.trans H; rw [hy236]; with_reducible exact H2_) | (have H2_ := (Option.bind_some _ _).symm.trans H; with_reducible exact H2_) | with_reducible exact H | (rw [hy236]; exact H) | exact H
                have Ny236 := Aside0.mk hy236
                clear hy236
                replace H := Option.bind_eq_some_iff.mp H
                obtain ⟨⟨t239, t240⟩, A170, H⟩ := H
                replace H : (if t230 = true then (if t232 = t240 then (if t232 = 0 then (if t231 = (-1) then (if t239 = (-1) then (chargeparklaw06_FuseRest.j1 kj5 a2 a3 true a0_0 a0_1) else (if t231 ≥ 0 then (chargeparklaw06_FuseRest.j1 kj5 a2 a3 (t239 == (wrap64 (t231 + a2))) a0_0 a0_1) else (chargeparklaw06_FuseRest.j1 kj5 a2 a3 false a0_0 a0_1))) else (if t231 ≥ 0 then (chargeparklaw06_FuseRest.j1 kj5 a2 a3 (t239 == (wrap64 (t231 + a2))) a0_0 a0_1) else (chargeparklaw06_FuseRest.j1 kj5 a2 a3 false a0_0 a0_1))) else (chargeparklaw06_FuseRest.j1 kj5 a2 a3 true a0_0 a0_1)) else (chargeparklaw06_FuseRest.j1 kj5 a2 a3 false a0_0 a0_1)) else (chargeparklaw06_FuseRest.j1 kj5 a2 a3 false a0_0 a0_1)) = some r := H
                have A17 := Aside0.mk A170
                clear A170
                have HC18 := Aside0.mk H
                clear H
                have hcz19_0 : wc.cell? ⟨gb229, 0, none⟩ = some (.int .i64 a0_0) := (blk_cell BK229.out 0).trans rfl
                have hcz19_1 : wc.cell? ⟨gb229, 1, none⟩ = some (.int .i64 a0_1) := (blk_cell BK229.out 1).trans rfl
                have hfz19_0 := blk_frozen BK229.out 0
                have hfz19_1 := blk_frozen BK229.out 1
                try go_wp2_with (first | ((with_reducible refine gate_callee (f := 13) rfl ?_); refine goesL_ (some 33) rfl rfl Try.func13 (by kernel_rfl) rfl #[.agg #[.int .i64 a0_0, .int .i64 a0_1], .slice A1 l1.length c1] rfl (by (try simp only [List.map_toArray, List.map_cons, List.map_nil]); first | done | rfl | (simp only [List.length_drop, List.length_take]; rfl)) ?_; (with_reducible refine (fuse_Melts.calls a0_0 a0_1 _ _ l1 t231 t232 _ ?side1 ?side2 A12.out).mono ?_); (case side1 => repeat (first | exact (Kd.C_below HR1.out HB.out) | (with_reducible refine Kd.C_alloc ?_ _) | (with_reducible refine Kd.C_drewN ?_ _) | (with_reducible refine Kd.C_drew ?_))); (case side2 => exact HC1.out); rintro e w20 ⟨rfl, hb⟩; refine ⟨_, rfl, ?_⟩; have n0_ := Aside0.mk (blk_below (g := gb229) (o := .cells #[.int .i64 a0_0, .int .i64 a0_1] 23 (0, 0)) (by (with_reducible repeat (first | refine blk_drewN ?_ _ | refine blk_drew ?_ | refine blk_alloc ?_ _)); exact BK229.out) hb); have n1_ := Aside0.mk (below_step (by repeat (first | (with_reducible first | exact HB.out | apply below_alloc | apply pw_below_drewN | apply below_drew1 | refine below_set ?_ GE229.out) | exact HB.out)) hb); clear BK229; clear HB; have BK229 := n0_; have HB := n1_; clear n0_ n1_; (try clear hb); (try clear hb2); (try clear hk); (try clear hi)))
                have n0_ := Aside0.mk (blk_drew BK229.out)
                have n1_ := Aside0.mk (below_drew1 HB.out)
                clear BK229
                clear HB
                have BK229 := n0_
                have HB := n1_
                clear n0_ n1_
                refine start_ (n := 15) (S := fun w' => w'.cell? ⟨gb229, 0, none⟩ = some (.int .i64 a0_0) ∧ w'.cell? ⟨gb229, 1, none⟩ = some (.int .i64 a0_1)) (ds := []) #[false, false, false, false, false, false, false, false, false, false, false, false, false, false, false] (by kernel_rfl) rfl rfl ⟨(blk_cell BK229.out 0).trans rfl, (blk_cell BK229.out 1).trans rfl⟩ (fun hHeld => ?_); refine with_tabW chargeparklaw06_FuseRest.tab5 chargeparklaw06_FuseRest.bits5 (fun HT_ HW_ => ?_)
                generalize w20.drew = w21 at BK229 HB hHeld ⊢
                refine pure_ (i := 1) (N := some 38) (v := ?_) (a' := ?_) #[false, true, false, false, false, false, false, false, false, false, false, false, false, false, false] rfl rfl (any_of HT_.out (by kernel_rfl)) (fun _ _ _ h => h) (Or.inl ⟨by rfl, ?_⟩) ?_ ?_
                rotate_left
                · intro w'
                  go_simp
                  with_reducible rfl
                rotate_left
                · simp only [Act.put, List.setIfInBounds_toArray, List.set_cons_zero, List.set_cons_succ, i64_w, i32_w]
                  rfl
                refine pure_ (i := 2) (N := some 39) (v := ?_) (a' := ?_) #[false, true, true, false, false, false, false, false, false, false, false, false, false, false, false] rfl rfl (any_of HT_.out (by kernel_rfl)) (fun _ _ _ h => h) (Or.inl ⟨by rfl, ?_⟩) ?_ ?_
                rotate_left
                · intro w'
                  go_simp
                  with_reducible rfl
                rotate_left
                · simp only [Act.put, List.setIfInBounds_toArray, List.set_cons_zero, List.set_cons_succ, i64_w, i32_w]
                  rfl
                refine pure_ (i := 3) (N := some 40) (v := ?_) (a' := ?_) #[false, true, true, true, false, false, false, false, false, false, false, false, false, false, false] rfl rfl (any_of HT_.out (by kernel_rfl)) (fun _ _ _ h => h) (Or.inl ⟨by rfl, ?_⟩) ?_ ?_
                rotate_left
                · intro w'
                  go_simp
                  with_reducible rfl
                rotate_left
                · simp only [Act.put, List.setIfInBounds_toArray, List.set_cons_zero, List.set_cons_succ, i64_w, i32_w]
                  rfl
                refine pure_ (i := 4) (N := some 41) (v := ?_) (a' := ?_) #[false, true, true, true, true, false, false, false, false, false, false, false, false, false, false] rfl rfl (any_of HT_.out (by kernel_rfl)) (fun _ _ _ h => h) (Or.inl ⟨by rfl, ?_⟩) ?_ ?_
                rotate_left
                · intro w'
                  go_simp
                  with_reducible rfl
                rotate_left
                · simp only [Act.put, List.setIfInBounds_toArray, List.set_cons_zero, List.set_cons_succ, i64_w, i32_w]
                  rfl
                refine pure_ (i := 5) (N := some 42) (v := ?_) (a' := ?_) #[false, true, true, true, true, true, false, false, false, false, false, false, false, false, false] rfl rfl (any_of HT_.out (by kernel_rfl)) (fun _ _ _ h => h) (Or.inl ⟨by rfl, ?_⟩) ?_ ?_
                rotate_left
                · intro w'
                  go_simp
                  with_reducible rfl
                rotate_left
                · simp only [Act.put, List.setIfInBounds_toArray, List.set_cons_zero, List.set_cons_succ, i64_w, i32_w]
                  rfl
                refine pure_ (i := 7) (N := some 44) (v := ?_) (a' := ?_) #[false, true, true, true, true, true, false, true, false, false, false, false, false, false, false] rfl rfl (any_of HT_.out (by kernel_rfl)) (fun _ _ _ h => h) (Or.inl ⟨by rfl, ?_⟩) ?_ ?_
                rotate_left
                · intro w'
                  go_simp
                  with_reducible rfl
                rotate_left
                · simp only [Act.put, List.setIfInBounds_toArray, List.set_cons_zero, List.set_cons_succ, i64_w, i32_w]
                  rfl
                refine take_ (i := 0) (N := some 37) (v := ?_) (a' := ?_) #[true, true, true, true, true, true, false, true, false, false, false, false, false, false, false] rfl rfl (take_ofW HT_.out HW_.out (by kernel_rfl)) (fun _ _ _ h => h) (Or.inl ⟨by rfl, ?_⟩) hHeld ?_ ?_
                rotate_left
                · rintro w' ⟨s0, s1⟩
                  go_simp
                  with_reducible rfl
                rotate_left
                · simp only [Act.put, List.setIfInBounds_toArray, List.set_cons_zero, List.set_cons_succ, i64_w, i32_w]
                  rfl
                refine one_ (i := 6) (N := some 43) #[true, true, true, true, true, true, true, true, false, false, false, false, false, false, false] rfl rfl (one_of HT_.out (by kernel_rfl)) (by decide) (fun K hK => ?_)
                refine R_make_cap_step (Kd.int .i64) _ 3 (by rfl) (N := 43) rfl 24 _ _ rfl a2 rfl rfl Try.underlying24 (.int .i64 0) 8 info3 rfl (by decide) (by omega) 0 (ok := fun _ => True) (okp := fun _ => True) rfl (fun _ hk => hk) trivial (of_decide_eq_true (by first | (with_reducible assumption) | assumption)) (of_decide_eq_true (by first | (with_reducible assumption) | assumption)) (m_cap := _) (Nat.le_trans (Nat.mul_le_mul_right _ (of_decide_eq_true (by first | (with_reducible assumption) | assumption) : _ ≤ 35184372088832)) (by omega)) (Below.refl _ _) (Nat.le_refl _) ?_
                intro v234 w22 ho23 hb hg_ hnew_
                clear hg_ hnew_
                (first | rw [← Ny233.out] at ho23 | (simp only [Int.reduceToNat] at ho23; rw [← Ny233.out] at ho23))
                have n0_ := Aside0.mk (Kd.R_lower ho23 (below_size (by repeat (first | (with_reducible first | exact HB.out | apply below_alloc | apply pw_below_drewN | apply below_drew1 | refine below_set ?_ GE229.out) | exact HB.out))))
                have n1_ := Aside0.mk (blk_below (g := gb229) (o := .cells #[.int .i64 a0_0, .int .i64 a0_1] 23 (0, 0)) (by (with_reducible repeat (first | refine blk_drewN ?_ _ | refine blk_drew ?_ | refine blk_alloc ?_ _)); exact BK229.out) hb)
                have n2_ := Aside0.mk (below_step (by repeat (first | (with_reducible first | exact HB.out | apply below_alloc | apply pw_below_drewN | apply below_drew1 | refine below_set ?_ GE229.out) | exact HB.out)) hb)
                clear BK229
                clear HB
                have HO235 := n0_
                have BK229 := n1_
                have HB := n2_
                clear n0_ n1_ n2_
                clear hb ho23
                refine hK.out _ _ ⟨(blk_cell BK229.out 0).trans rfl, (blk_cell BK229.out 1).trans rfl⟩ (fun hHeld => ?_)
                clear hK K
                refine norm_ (a' := ?_) ?_ ?_
                rotate_left
                · show Act.put _ (some 43) _ = _
                  simp only [Act.put, List.setIfInBounds_toArray, List.set_cons_zero, List.set_cons_succ, i64_w, i32_w]
                  rfl
                refine one_ (i := 8) (N := some 45) #[true, true, true, true, true, true, true, true, true, false, false, false, false, false, false] rfl rfl (one_of HT_.out (by kernel_rfl)) (by decide) (fun K hK => ?_)
                refine Kd.R_append_rows_step (Kd.int .i64) (w0 := w) w.heap.size (by rfl) (.tmp 43) (.tmp 44) 24 3 (.int .i64 0) 8 rfl Try.underlying24 info3 rfl (by decide) (by omega) v234 y233 l1 _ _ _ (fun _ => True) (fun _ => False) rfl rfl ?aO ?aR (fun _ _ h => h) (fun _ h => h.elim) ?aF ?aB ?aS ?aL ?_
                (case aR => repeat (first | exact (Kd.C_below HR1.out HB.out) | (with_reducible refine Kd.C_alloc ?_ _) | (with_reducible refine Kd.C_drewN ?_ _) | (with_reducible refine Kd.C_drew ?_)))
                (case aB => exact (by repeat (first | (with_reducible first | exact HB.out | apply below_alloc | apply pw_below_drewN | apply below_drew1 | refine below_set ?_ GE229.out) | exact HB.out)))
                (case aF => exact (fun _ _ => trivial))
                (case aO => exact (by (with_reducible repeat (first | apply Kd.R_alloc | apply Kd.R_drewN | apply Kd.R_drew)); exact HO235.out))
                (case aS => exact (below_size (by repeat (first | (with_reducible first | exact HB.out | apply below_alloc | apply pw_below_drewN | apply below_drew1 | refine below_set ?_ GE229.out) | exact HB.out))))
                (case aL => have := LMc16.out; omega)
                intro v237 w24 ho hb hg hat
                rw [← Ny236.out] at ho
                have n0_ := Aside0.mk (blk_grown (g := gb229) (o := .cells #[.int .i64 a0_0, .int .i64 a0_1] 23 (0, 0)) (by (with_reducible repeat (first | refine blk_drewN ?_ _ | refine blk_drew ?_ | refine blk_alloc ?_ _)); exact BK229.out) hg (Kd.R_ne HO235.out BK229.out (by decide)))
                have n1_ := Aside0.mk (hb)
                have n2_ := Aside0.mk (ho)
                clear BK229
                clear HB
                clear HO235
                have BK229 := n0_
                have HB := n1_
                have HO238 := n2_
                clear n0_ n1_ n2_
                clear ho hb hg hat
                obtain ⟨Ao25, co25, eo25⟩ := Kd.R_slice HO238.out
                (first | subst eo25 | (injection eo25 with f1_ f2_ f3_; have f4_ := f1_.symm; have f5_ := f3_.symm; clear f1_ f2_ f3_; subst f4_; subst f5_))
                refine hK.out _ _ ⟨(blk_cell BK229.out 0).trans rfl, (blk_cell BK229.out 1).trans rfl⟩ (fun hHeld => ?_)
                clear hK K
                refine norm_ (a' := ?_) ?_ ?_
                rotate_left
                · show Act.put _ (some 45) _ = _
                  simp only [Act.put, List.setIfInBounds_toArray, List.set_cons_zero, List.set_cons_succ, i64_w, i32_w]
                  rfl
                refine one_ (i := 9) (N := some 46) #[true, true, true, true, true, true, true, true, true, true, false, false, false, false, false] rfl rfl (one_of HT_.out (by kernel_rfl)) (by decide) (fun K hK => ?_)
                refine goes_ Try.func13 (by kernel_rfl) rfl #[.agg #[.int .i64 a0_0, .int .i64 a0_1], .slice Ao25 y236.length co25] (by rfl) rfl rfl (by (try simp only [List.map_toArray, List.map_cons, List.map_nil]); first | done | rfl | (simp only [List.length_drop, List.length_take]; rfl)) ?_
                with_reducible refine (fuse_Melts.calls a0_0 a0_1 _ _ y236 t239 t240 _ ?side1 ?side2 A17.out).mono ?_
                (case side1 => repeat (first | exact (Kd.R_reads' HO238.out).2.2 | (with_reducible refine Kd.C_alloc ?_ _) | (with_reducible refine Kd.C_drewN ?_ _) | (with_reducible refine Kd.C_drew ?_)))
                (case side2 => exact (Kd.R_reads' HO238.out).2.1)
                rintro e w26 ⟨rfl, hb⟩
                refine ⟨_, rfl, ?_⟩
                have n0_ := Aside0.mk (Kd.R_below (by (with_reducible repeat (first | apply Kd.R_alloc | apply Kd.R_drewN | apply Kd.R_drew)); exact HO238.out) hb)
                have n1_ := Aside0.mk (blk_below (g := gb229) (o := .cells #[.int .i64 a0_0, .int .i64 a0_1] 23 (0, 0)) (by (with_reducible repeat (first | refine blk_drewN ?_ _ | refine blk_drew ?_ | refine blk_alloc ?_ _)); exact BK229.out) hb)
                have n2_ := Aside0.mk (below_step (by repeat (first | (with_reducible first | exact HB.out | apply below_alloc | apply pw_below_drewN | apply below_drew1 | refine below_set ?_ GE229.out) | exact HB.out)) hb)
                clear HO238
                clear BK229
                clear HB
                have HO238 := n0_
                have BK229 := n1_
                have HB := n2_
                clear n0_ n1_ n2_
                (try clear hb)
                (try clear hb2)
                (try clear hk)
                (try clear hi)
                refine hK.out _ _ ⟨(blk_cell BK229.out 0).trans rfl, (blk_cell BK229.out 1).trans rfl⟩ (fun hHeld => ?_)
                clear hK K
                refine norm_ (a' := ?_) ?_ ?_
                rotate_left
                · show Act.put _ (some 46) _ = _
                  simp only [Act.put, List.setIfInBounds_toArray, List.set_cons_zero, List.set_cons_succ, i64_w, i32_w]
                  rfl
                refine pure_ (i := 10) (N := some 36) (v := ?_) (a' := ?_) #[true, true, true, true, true, true, true, true, true, true, true, false, false, false, false] rfl rfl (any_of HT_.out (by kernel_rfl)) (fun _ _ _ h => h) (Or.inl ⟨by rfl, ?_⟩) ?_ ?_
                rotate_left
                · intro w'
                  go_simp
                  with_reducible rfl
                rotate_left
                · simp only [Act.put, List.setIfInBounds_toArray, List.set_cons_zero, List.set_cons_succ, i64_w, i32_w]
                  rfl
                refine pure_ (i := 11) (N := some 47) (v := ?_) (a' := ?_) #[true, true, true, true, true, true, true, true, true, true, true, true, false, false, false] rfl rfl (any_of HT_.out (by kernel_rfl)) (fun _ _ _ h => h) (Or.inl ⟨by rfl, ?_⟩) ?_ ?_
                rotate_left
                · intro w'
                  go_simp
                  with_reducible rfl
                rotate_left
                · simp only [Act.put, List.setIfInBounds_toArray, List.set_cons_zero, List.set_cons_succ, i64_w, i32_w]
                  rfl
                refine pure_ (i := 12) (N := some 48) (v := ?_) (a' := ?_) #[true, true, true, true, true, true, true, true, true, true, true, true, true, false, false] rfl rfl (any_of HT_.out (by kernel_rfl)) (fun _ _ _ h => h) (Or.inl ⟨by rfl, ?_⟩) ?_ ?_
                rotate_left
                · intro w'
                  go_simp
                  with_reducible rfl
                rotate_left
                · simp only [Act.put, List.setIfInBounds_toArray, List.set_cons_zero, List.set_cons_succ, i64_w, i32_w]
                  rfl
                refine pure_ (i := 13) (N := some 12) (v := ?_) (a' := ?_) #[true, true, true, true, true, true, true, true, true, true, true, true, true, true, false] rfl rfl (any_of HT_.out (by kernel_rfl)) (fun _ _ _ h => h) (Or.inl ⟨by rfl, ?_⟩) ?_ ?_
                rotate_left
                · intro w'
                  go_simp
                  with_reducible rfl
                rotate_left
                · simp only [Act.put, List.setIfInBounds_toArray, List.set_cons_zero, List.set_cons_succ, i64_w, i32_w]
                  rfl
                refine pure_ (i := 14) (N := some 13) (v := ?_) (a' := ?_) #[true, true, true, true, true, true, true, true, true, true, true, true, true, true, true] rfl rfl (any_of HT_.out (by kernel_rfl)) (fun _ _ _ h => h) (Or.inl ⟨by rfl, ?_⟩) ?_ ?_
                rotate_left
                · intro w'
                  go_simp
                  with_reducible rfl
                rotate_left
                · simp only [Act.put, List.setIfInBounds_toArray, List.set_cons_zero, List.set_cons_succ, i64_w, i32_w]
                  rfl
                refine done_ (done_of HT_.out (by kernel_rfl)) ?_
                go_upto_region 6 with (fail)
                go_cut [9] (fun v9 wc => ∃ (kq : Nat) (x9_17 : Bool), v9 = .bool x9_17 ∧ Aside0 (chargeparklaw06_FuseRest.j1 kq a2 a3 x9_17 a0_0 a0_1 = some r) ∧ Aside0 (kq ≤ kj5) ∧ Aside0 (wc.heap[gb229]? = some (.cells #[.int .i64 a0_0, .int .i64 a0_1] 23 (0, 0))) ∧ Aside0 (Below w.heap.size w wc))
                case first =>
                  have H := HC18.out
                  clear HC18
                  by_cases c27 : t230 = true
                  · subst c27
                    have H1 : (if t232 = t240 then (if t232 = 0 then (if t231 = (-1) then (if t239 = (-1) then (chargeparklaw06_FuseRest.j1 kj5 a2 a3 true a0_0 a0_1) else (if t231 ≥ 0 then (chargeparklaw06_FuseRest.j1 kj5 a2 a3 (t239 == (wrap64 (t231 + a2))) a0_0 a0_1) else (chargeparklaw06_FuseRest.j1 kj5 a2 a3 false a0_0 a0_1))) else (if t231 ≥ 0 then (chargeparklaw06_FuseRest.j1 kj5 a2 a3 (t239 == (wrap64 (t231 + a2))) a0_0 a0_1) else (chargeparklaw06_FuseRest.j1 kj5 a2 a3 false a0_0 a0_1))) else (chargeparklaw06_FuseRest.j1 kj5 a2 a3 true a0_0 a0_1)) else (chargeparklaw06_FuseRest.j1 kj5 a2 a3 false a0_0 a0_1)) = some r := by rw [if_pos rfl] at H; exact H
                    clear H
                    have H := H1
                    clear H1
                    by_cases c28 : t232 = t240
                    · rw [if_pos c28] at H
                      have c28b0 : (t232 == t240) = true := beq_iff_eq.mpr c28
                      have c28b1 : (t232 != t240) = false := bne_eq_false_iff_eq.mpr c28
                      clear c28
                      (first | rw [c28b0] | (simp only [i64_w, i32_w]; rw [c28b0]) | skip)
                      by_cases c29 : t232 = 0
                      · rw [if_pos c29] at H
                        have c29b0 : (t232 == 0) = true := beq_iff_eq.mpr c29
                        have c29b1 : (t232 != 0) = false := bne_eq_false_iff_eq.mpr c29
                        clear c29
                        by_cases c30 : t231 = (-1)
                        · rw [if_pos c30] at H
                          have c30b0 : (t231 == (-1)) = true := beq_iff_eq.mpr c30
                          have c30b1 : (t231 != (-1)) = false := bne_eq_false_iff_eq.mpr c30
                          clear c30
                          by_cases c31 : t239 = (-1)
                          · rw [if_pos c31] at H
                            have c31b0 : (t239 == (-1)) = true := beq_iff_eq.mpr c31
                            have c31b1 : (t239 != (-1)) = false := bne_eq_false_iff_eq.mpr c31
                            clear c31
                            have H' := Aside0.mk H
                            clear H
                            go_wp2
                            go_meet
                            case rel => exact ⟨_, (true), (by first | rfl | (simp; done) | (simp [*]; done)), H', ⟨by have := HJ5.out; first | omega | exact Nat.le_refl _⟩, ⟨by (with_reducible repeat (first | refine blk_drewN ?_ _ | refine blk_drew ?_ | refine blk_alloc ?_ _)); exact BK229.out⟩, ⟨by repeat (first | (with_reducible first | exact HB.out | apply below_alloc | apply pw_below_drewN | apply below_drew1 | refine below_set ?_ GE229.out) | exact HB.out)⟩⟩
                          · rw [if_neg c31] at H
                            have c31b0 : (t239 == (-1)) = false := beq_eq_false_iff_ne.mpr c31
                            have c31b1 : (t239 != (-1)) = true := bne_iff_ne.mpr c31
                            by_cases c32 : t231 ≥ 0
                            · rw [if_pos c32] at H
                              have c32b0 : decide (0 ≤ t231) = true := decide_eq_true c32
                              clear c32
                              have H' := Aside0.mk H
                              clear H
                              go_wp2
                              go_meet
                              case rel => exact ⟨_, ((t239 == (wrap64 (t231 + a2)))), (by first | rfl | (simp; done) | (simp [*]; done)), H', ⟨by have := HJ5.out; first | omega | exact Nat.le_refl _⟩, ⟨by (with_reducible repeat (first | refine blk_drewN ?_ _ | refine blk_drew ?_ | refine blk_alloc ?_ _)); exact BK229.out⟩, ⟨by repeat (first | (with_reducible first | exact HB.out | apply below_alloc | apply pw_below_drewN | apply below_drew1 | refine below_set ?_ GE229.out) | exact HB.out)⟩⟩
                            · rw [if_neg c32] at H
                              have c32b0 : decide (0 ≤ t231) = false := decide_eq_false c32
                              clear c32
                              have H' := Aside0.mk H
                              clear H
                              go_wp2
                              go_meet
                              case rel => exact ⟨_, (false), (by first | rfl | (simp; done) | (simp [*]; done)), H', ⟨by have := HJ5.out; first | omega | exact Nat.le_refl _⟩, ⟨by (with_reducible repeat (first | refine blk_drewN ?_ _ | refine blk_drew ?_ | refine blk_alloc ?_ _)); exact BK229.out⟩, ⟨by repeat (first | (with_reducible first | exact HB.out | apply below_alloc | apply pw_below_drewN | apply below_drew1 | refine below_set ?_ GE229.out) | exact HB.out)⟩⟩
                        · rw [if_neg c30] at H
                          have c30b0 : (t231 == (-1)) = false := beq_eq_false_iff_ne.mpr c30
                          have c30b1 : (t231 != (-1)) = true := bne_iff_ne.mpr c30
                          by_cases c33 : t231 ≥ 0
                          · rw [if_pos c33] at H
                            have c33b0 : decide (0 ≤ t231) = true := decide_eq_true c33
                            clear c33
                            have H' := Aside0.mk H
                            clear H
                            go_wp2
                            go_meet
                            case rel => exact ⟨_, ((t239 == (wrap64 (t231 + a2)))), (by first | rfl | (simp; done) | (simp [*]; done)), H', ⟨by have := HJ5.out; first | omega | exact Nat.le_refl _⟩, ⟨by (with_reducible repeat (first | refine blk_drewN ?_ _ | refine blk_drew ?_ | refine blk_alloc ?_ _)); exact BK229.out⟩, ⟨by repeat (first | (with_reducible first | exact HB.out | apply below_alloc | apply pw_below_drewN | apply below_drew1 | refine below_set ?_ GE229.out) | exact HB.out)⟩⟩
                          · rw [if_neg c33] at H
                            have c33b0 : decide (0 ≤ t231) = false := decide_eq_false c33
                            clear c33
                            have H' := Aside0.mk H
                            clear H
                            go_wp2
                            go_meet
                            case rel => exact ⟨_, (false), (by first | rfl | (simp; done) | (simp [*]; done)), H', ⟨by have := HJ5.out; first | omega | exact Nat.le_refl _⟩, ⟨by (with_reducible repeat (first | refine blk_drewN ?_ _ | refine blk_drew ?_ | refine blk_alloc ?_ _)); exact BK229.out⟩, ⟨by repeat (first | (with_reducible first | exact HB.out | apply below_alloc | apply pw_below_drewN | apply below_drew1 | refine below_set ?_ GE229.out) | exact HB.out)⟩⟩
                      · rw [if_neg c29] at H
                        have c29b0 : (t232 == 0) = false := beq_eq_false_iff_ne.mpr c29
                        have c29b1 : (t232 != 0) = true := bne_iff_ne.mpr c29
                        have H' := Aside0.mk H
                        clear H
                        go_wp2
                        go_meet
                        case rel => exact ⟨_, (true), (by first | rfl | (simp; done) | (simp [*]; done)), H', ⟨by have := HJ5.out; first | omega | exact Nat.le_refl _⟩, ⟨by (with_reducible repeat (first | refine blk_drewN ?_ _ | refine blk_drew ?_ | refine blk_alloc ?_ _)); exact BK229.out⟩, ⟨by repeat (first | (with_reducible first | exact HB.out | apply below_alloc | apply pw_below_drewN | apply below_drew1 | refine below_set ?_ GE229.out) | exact HB.out)⟩⟩
                    · rw [if_neg c28] at H
                      have c28b0 : (t232 == t240) = false := beq_eq_false_iff_ne.mpr c28
                      have c28b1 : (t232 != t240) = true := bne_iff_ne.mpr c28
                      (first | rw [c28b0] | (simp only [i64_w, i32_w]; rw [c28b0]) | skip)
                      have H' := Aside0.mk H
                      clear H
                      go_wp2
                      go_meet
                      case rel => exact ⟨_, (false), (by first | rfl | (simp; done) | (simp [*]; done)), H', ⟨by have := HJ5.out; first | omega | exact Nat.le_refl _⟩, ⟨by (with_reducible repeat (first | refine blk_drewN ?_ _ | refine blk_drew ?_ | refine blk_alloc ?_ _)); exact BK229.out⟩, ⟨by repeat (first | (with_reducible first | exact HB.out | apply below_alloc | apply pw_below_drewN | apply below_drew1 | refine below_set ?_ GE229.out) | exact HB.out)⟩⟩
                  · replace c27 := Bool.eq_false_iff.mpr c27
                    subst c27
                    have H1 : (chargeparklaw06_FuseRest.j1 kj5 a2 a3 false a0_0 a0_1) = some r := by rw [if_neg (show ¬ (false = true) by decide)] at H; exact H
                    clear H
                    have H := H1
                    clear H1
                    have H' := Aside0.mk H
                    clear H
                    go_wp2
                    go_meet
                    case rel => exact ⟨_, (false), (by first | rfl | (simp; done) | (simp [*]; done)), H', ⟨by have := HJ5.out; first | omega | exact Nat.le_refl _⟩, ⟨by (with_reducible repeat (first | refine blk_drewN ?_ _ | refine blk_drew ?_ | refine blk_alloc ?_ _)); exact BK229.out⟩, ⟨by repeat (first | (with_reducible first | exact HB.out | apply below_alloc | apply pw_below_drewN | apply below_drew1 | refine below_set ?_ GE229.out) | exact HB.out)⟩⟩
                case rest =>
                  clear HC18
                  try clear c1
                  try clear c2
                  try clear p2
                  try clear c3
                  try clear p6
                  try clear c8
                  try clear c9
                  try clear c9b0
                  try clear c9b1
                  try clear c10
                  try clear c10b0
                  try clear c11
                  try clear c13
                  try clear c13b0
                  try clear c13b1
                  try clear c14
                  try clear c14b0
                  try clear c14b1
                  try clear c15
                  try clear c15b0
                  try clear c15b1
                  try clear c16
                  try clear c27
                  try clear c28
                  try clear c28b0
                  try clear c28b1
                  try clear c29
                  try clear c29b0
                  try clear c29b1
                  try clear c30
                  try clear c30b0
                  try clear c30b1
                  try clear c31
                  try clear c31b0
                  try clear c31b1
                  try clear c32
                  try clear c32b0
                  try clear c33
                  try clear c33b0
                  try clear hcz19_0
                  try clear hcz19_1
                  try clear hfz19_0
                  try clear hfz19_1
                  try clear p2
                  obtain ⟨kq, x9_17, rfl, HA, HJ17, BK229, HB⟩ := hcut
                  cases kq with
                  | zero => exact absurd HA.out (by simp [chargeparklaw06_FuseRest.j1])
                  | succ kj17 =>
                    have H := HA.out
                    clear HA
                    simp only [chargeparklaw06_FuseRest.j1] at H
                    have H' := Aside0.mk H
                    clear H
                    go_wp2
                    go_loopg [3, 9, 14] kj17 (fun kq v3 v9 v14 w' => ∃ (x3_3 : Int) (x9_3 : Bool) (x14_3 : Int), v3 = .int .i64 x3_3 ∧ v9 = .bool x9_3 ∧ v14 = .int .i64 x14_3 ∧ Aside0 (chargeparklaw06_FuseRest.l0 kq a2 x3_3 x9_3 x14_3 a0_0 a0_1 = some r) ∧ Aside0 (kq ≤ kj17) ∧ Aside0 (w'.heap[gb229]? = some (.cells #[.int .i64 a0_0, .int .i64 a0_1] 23 (0, 0))) ∧ Aside0 (Below w.heap.size w w'))
                    case atStart => exact ⟨(a3), (x9_17), (0), (by first | rfl | (simp; done) | (simp [*]; done)), (by first | rfl | (simp; done) | (simp [*]; done)), (by first | rfl | (simp; done) | (simp [*]; done)), H', ⟨Nat.le_refl _⟩, ⟨by (with_reducible repeat (first | refine blk_drewN ?_ _ | refine blk_drew ?_ | refine blk_alloc ?_ _)); exact BK229.out⟩, ⟨by repeat (first | (with_reducible first | exact HB.out | apply below_alloc | apply pw_below_drewN | apply below_drew1 | refine below_set ?_ GE229.out) | exact HB.out)⟩⟩
                    case round =>
                      clear H'
                      try clear c1
                      try clear c2
                      try clear p2
                      try clear c3
                      try clear p6
                      try clear c8
                      try clear c9
                      try clear c9b0
                      try clear c9b1
                      try clear c10
                      try clear c10b0
                      try clear c11
                      try clear c13
                      try clear c13b0
                      try clear c13b1
                      try clear c14
                      try clear c14b0
                      try clear c14b1
                      try clear c15
                      try clear c15b0
                      try clear c15b1
                      try clear c16
                      try clear c27
                      try clear c28
                      try clear c28b0
                      try clear c28b1
                      try clear c29
                      try clear c29b0
                      try clear c29b1
                      try clear c30
                      try clear c30b0
                      try clear c30b1
                      try clear c31
                      try clear c31b0
                      try clear c31b1
                      try clear c32
                      try clear c32b0
                      try clear c33
                      try clear c33b0
                      try clear hcz19_0
                      try clear hcz19_1
                      try clear hfz19_0
                      try clear hfz19_1
                      try clear p2
                      try clear p6
                      obtain ⟨x3_3, x9_3, x14_3, rfl, rfl, rfl, HA, HK3, BK229, HB⟩ := hrel
                      cases gk with
                      | zero => exact absurd HA.out (by simp [chargeparklaw06_FuseRest.l0])
                      | succ k3 =>
                        have H := HA.out
                        clear HA
                        simp only [chargeparklaw06_FuseRest.l0] at H
                        by_cases c34 : x14_3 < a2
                        · rw [if_pos c34] at H
                          have c34b0 : decide (x14_3 < a2) = true := decide_eq_true c34
                          clear c34
                          replace H := Option.bind_eq_some_iff.mp H
                          obtain ⟨⟨t241, t242⟩, A350, H⟩ := H
                          replace H : (if t242 = 0 then (if x9_3 = true then (if t241 < x3_3 then (chargeparklaw06_FuseRest.l0 k3 a2 t241 (t241 == (mx 0 (wrap64 (x3_3 - (wrap64 (a0_0 * a0_0)))))) (wrap64 (x14_3 + 1)) a0_0 a0_1) else (if t241 = 0 then (chargeparklaw06_FuseRest.l0 k3 a2 t241 (t241 == (mx 0 (wrap64 (x3_3 - (wrap64 (a0_0 * a0_0)))))) (wrap64 (x14_3 + 1)) a0_0 a0_1) else (chargeparklaw06_FuseRest.l0 k3 a2 t241 false (wrap64 (x14_3 + 1)) a0_0 a0_1))) else (chargeparklaw06_FuseRest.l0 k3 a2 t241 false (wrap64 (x14_3 + 1)) a0_0 a0_1)) else (if x9_3 = true then (some (x14_3 == 0)) else (some false))) = some r := H
                          have A35 := Aside0.mk A350
                          clear A350
                          by_cases c36 : t242 = 0
                          · rw [if_pos c36] at H
                            have c36b0 : (t242 == 0) = true := beq_iff_eq.mpr c36
                            have c36b1 : (t242 != 0) = false := bne_eq_false_iff_eq.mpr c36
                            clear c36
                            by_cases c37 : x9_3 = true
                            · subst c37
                              have H1 : (if t241 < x3_3 then (chargeparklaw06_FuseRest.l0 k3 a2 t241 (t241 == (mx 0 (wrap64 (x3_3 - (wrap64 (a0_0 * a0_0)))))) (wrap64 (x14_3 + 1)) a0_0 a0_1) else (if t241 = 0 then (chargeparklaw06_FuseRest.l0 k3 a2 t241 (t241 == (mx 0 (wrap64 (x3_3 - (wrap64 (a0_0 * a0_0)))))) (wrap64 (x14_3 + 1)) a0_0 a0_1) else (chargeparklaw06_FuseRest.l0 k3 a2 t241 false (wrap64 (x14_3 + 1)) a0_0 a0_1))) = some r := by rw [if_pos rfl] at H; exact H
                              clear H
                              have H := H1
                              clear H1
                              by_cases c38 : t241 < x3_3
                              · rw [if_pos c38] at H
                                have c38b0 : decide (t241 < x3_3) = true := decide_eq_true c38
                                clear c38
                                obtain ⟨ji39, hji39⟩ : ∃ j_ : Int, (mx 0 (wrap64 (x3_3 - (wrap64 (a0_0 * a0_0))))) = j_ := ⟨_, rfl⟩
                                replace H : (chargeparklaw06_FuseRest.l0 k3 a2 t241 (t241 == (ji39)) (wrap64 (x14_3 + 1)) a0_0 a0_1) = some r := by first | (rw [hji39] at H; exact H) | (simp only [hji39] at H ⊢; exact H)
                                (try rw [hji39] at A35)
                                have hji39_ : (if 0 < (wrap64 (x3_3 - (wrap64 (a0_0 * a0_0)))) then (wrap64 (x3_3 - (wrap64 (a0_0 * a0_0)))) else 0) = ji39 := hji39
                                have H' := Aside0.mk H
                                clear H
                                have hcz40_0 : wr.cell? ⟨gb229, 0, none⟩ = some (.int .i64 a0_0) := (blk_cell BK229.out 0).trans rfl
                                have hcz40_1 : wr.cell? ⟨gb229, 1, none⟩ = some (.int .i64 a0_1) := (blk_cell BK229.out 1).trans rfl
                                have hfz40_0 := blk_frozen BK229.out 0
                                have hfz40_1 := blk_frozen BK229.out 1
                                go_wp2_with (first | ((with_reducible refine gate_callee (f := 11) rfl ?_); refine goesL_ (some 86) rfl rfl Try.func11 (by kernel_rfl) rfl #[.agg #[.int .i64 a0_0, .int .i64 a0_1], .int .i64 x3_3, .int .i64 0] rfl (by (try simp only [List.map_toArray, List.map_cons, List.map_nil]); first | done | rfl | (simp only [List.length_drop, List.length_take]; rfl)) ?_; (with_reducible refine (fuse_Next.calls a0_0 a0_1 x3_3 0 t241 t242 _ A35.out).mono ?_); rintro e w41 ⟨rfl, hb⟩; refine ⟨_, rfl, ?_⟩; have n0_ := Aside0.mk (blk_below (g := gb229) (o := .cells #[.int .i64 a0_0, .int .i64 a0_1] 23 (0, 0)) (by (with_reducible repeat (first | refine blk_drewN ?_ _ | refine blk_drew ?_ | refine blk_alloc ?_ _)); exact BK229.out) hb); have n1_ := Aside0.mk (below_step (by repeat (first | (with_reducible first | exact HB.out | apply below_alloc | apply pw_below_drewN | apply below_drew1 | refine below_set ?_ GE229.out) | exact HB.out)) hb); clear BK229; clear HB; have BK229 := n0_; have HB := n1_; clear n0_ n1_; (try clear hb); (try clear hb2); (try clear hk); (try clear hi); have hcz42_0 : w41.cell? ⟨gb229, 0, none⟩ = some (.int .i64 a0_0) := (blk_cell BK229.out 0).trans rfl; have hcz42_1 : w41.cell? ⟨gb229, 1, none⟩ = some (.int .i64 a0_1) := (blk_cell BK229.out 1).trans rfl; have hfz42_0 := blk_frozen BK229.out 0; have hfz42_1 := blk_frozen BK229.out 1))
                                go_roundg k3
                                case measure => have := HJ5.out; have := HJ17.out; have := HK3.out; omega
                                case rel => exact ⟨(t241), ((t241 == (ji39))), (wrap64 (x14_3 + 1)), (by first | rfl | (simp; done) | (simp [*]; done)), (by first | rfl | (simp; done) | (simp only [← hji39] <;> (first | rfl | simp)) | (simp [*]; done)), (by first | rfl | (simp; done) | (simp [*]; done)), H', ⟨by have := HJ5.out; have := HJ17.out; have := HK3.out; omega⟩, ⟨by (with_reducible repeat (first | refine blk_drewN ?_ _ | refine blk_drew ?_ | refine blk_alloc ?_ _)); exact BK229.out⟩, ⟨by repeat (first | (with_reducible first | exact HB.out | apply below_alloc | apply pw_below_drewN | apply below_drew1 | refine below_set ?_ GE229.out) | exact HB.out)⟩⟩
                              · rw [if_neg c38] at H
                                have c38b0 : decide (t241 < x3_3) = false := decide_eq_false c38
                                clear c38
                                by_cases c43 : t241 = 0
                                · rw [if_pos c43] at H
                                  have c43b0 : (t241 == 0) = true := beq_iff_eq.mpr c43
                                  have c43b1 : (t241 != 0) = false := bne_eq_false_iff_eq.mpr c43
                                  clear c43
                                  obtain ⟨ji44, hji44⟩ : ∃ j_ : Int, (mx 0 (wrap64 (x3_3 - (wrap64 (a0_0 * a0_0))))) = j_ := ⟨_, rfl⟩
                                  replace H : (chargeparklaw06_FuseRest.l0 k3 a2 t241 (t241 == (ji44)) (wrap64 (x14_3 + 1)) a0_0 a0_1) = some r := by first | (rw [hji44] at H; exact H) | (simp only [hji44] at H ⊢; exact H)
                                  (try rw [hji44] at A35)
                                  have hji44_ : (if 0 < (wrap64 (x3_3 - (wrap64 (a0_0 * a0_0)))) then (wrap64 (x3_3 - (wrap64 (a0_0 * a0_0)))) else 0) = ji44 := hji44
                                  have H' := Aside0.mk H
                                  clear H
                                  have hcz45_0 : wr.cell? ⟨gb229, 0, none⟩ = some (.int .i64 a0_0) := (blk_cell BK229.out 0).trans rfl
                                  have hcz45_1 : wr.cell? ⟨gb229, 1, none⟩ = some (.int .i64 a0_1) := (blk_cell BK229.out 1).trans rfl
                                  have hfz45_0 := blk_frozen BK229.out 0
                                  have hfz45_1 := blk_frozen BK229.out 1
                                  go_wp2_with (first | ((with_reducible refine gate_callee (f := 11) rfl ?_); refine goesL_ (some 86) rfl rfl Try.func11 (by kernel_rfl) rfl #[.agg #[.int .i64 a0_0, .int .i64 a0_1], .int .i64 x3_3, .int .i64 0] rfl (by (try simp only [List.map_toArray, List.map_cons, List.map_nil]); first | done | rfl | (simp only [List.length_drop, List.length_take]; rfl)) ?_; (with_reducible refine (fuse_Next.calls a0_0 a0_1 x3_3 0 t241 t242 _ A35.out).mono ?_); rintro e w46 ⟨rfl, hb⟩; refine ⟨_, rfl, ?_⟩; have n0_ := Aside0.mk (blk_below (g := gb229) (o := .cells #[.int .i64 a0_0, .int .i64 a0_1] 23 (0, 0)) (by (with_reducible repeat (first | refine blk_drewN ?_ _ | refine blk_drew ?_ | refine blk_alloc ?_ _)); exact BK229.out) hb); have n1_ := Aside0.mk (below_step (by repeat (first | (with_reducible first | exact HB.out | apply below_alloc | apply pw_below_drewN | apply below_drew1 | refine below_set ?_ GE229.out) | exact HB.out)) hb); clear BK229; clear HB; have BK229 := n0_; have HB := n1_; clear n0_ n1_; (try clear hb); (try clear hb2); (try clear hk); (try clear hi); have hcz47_0 : w46.cell? ⟨gb229, 0, none⟩ = some (.int .i64 a0_0) := (blk_cell BK229.out 0).trans rfl; have hcz47_1 : w46.cell? ⟨gb229, 1, none⟩ = some (.int .i64 a0_1) := (blk_cell BK229.out 1).trans rfl; have hfz47_0 := blk_frozen BK229.out 0; have hfz47_1 := blk_frozen BK229.out 1))
                                  go_roundg k3
                                  case measure => have := HJ5.out; have := HJ17.out; have := HK3.out; omega
                                  case rel => exact ⟨(t241), ((t241 == (ji44))), (wrap64 (x14_3 + 1)), (by first | rfl | (simp; done) | (simp [*]; done)), (by first | rfl | (simp; done) | (simp only [← hji44] <;> (first | rfl | simp)) | (simp [*]; done)), (by first | rfl | (simp; done) | (simp [*]; done)), H', ⟨by have := HJ5.out; have := HJ17.out; have := HK3.out; omega⟩, ⟨by (with_reducible repeat (first | refine blk_drewN ?_ _ | refine blk_drew ?_ | refine blk_alloc ?_ _)); exact BK229.out⟩, ⟨by repeat (first | (with_reducible first | exact HB.out | apply below_alloc | apply pw_below_drewN | apply below_drew1 | refine below_set ?_ GE229.out) | exact HB.out)⟩⟩
                                · rw [if_neg c43] at H
                                  have c43b0 : (t241 == 0) = false := beq_eq_false_iff_ne.mpr c43
                                  have c43b1 : (t241 != 0) = true := bne_iff_ne.mpr c43
                                  have H' := Aside0.mk H
                                  clear H
                                  have hcz48_0 : wr.cell? ⟨gb229, 0, none⟩ = some (.int .i64 a0_0) := (blk_cell BK229.out 0).trans rfl
                                  have hcz48_1 : wr.cell? ⟨gb229, 1, none⟩ = some (.int .i64 a0_1) := (blk_cell BK229.out 1).trans rfl
                                  have hfz48_0 := blk_frozen BK229.out 0
                                  have hfz48_1 := blk_frozen BK229.out 1
                                  go_wp2_with (first | ((with_reducible refine gate_callee (f := 11) rfl ?_); refine goesL_ (some 86) rfl rfl Try.func11 (by kernel_rfl) rfl #[.agg #[.int .i64 a0_0, .int .i64 a0_1], .int .i64 x3_3, .int .i64 0] rfl (by (try simp only [List.map_toArray, List.map_cons, List.map_nil]); first | done | rfl | (simp only [List.length_drop, List.length_take]; rfl)) ?_; (with_reducible refine (fuse_Next.calls a0_0 a0_1 x3_3 0 t241 t242 _ A35.out).mono ?_); rintro e w49 ⟨rfl, hb⟩; refine ⟨_, rfl, ?_⟩; have n0_ := Aside0.mk (blk_below (g := gb229) (o := .cells #[.int .i64 a0_0, .int .i64 a0_1] 23 (0, 0)) (by (with_reducible repeat (first | refine blk_drewN ?_ _ | refine blk_drew ?_ | refine blk_alloc ?_ _)); exact BK229.out) hb); have n1_ := Aside0.mk (below_step (by repeat (first | (with_reducible first | exact HB.out | apply below_alloc | apply pw_below_drewN | apply below_drew1 | refine below_set ?_ GE229.out) | exact HB.out)) hb); clear BK229; clear HB; have BK229 := n0_; have HB := n1_; clear n0_ n1_; (try clear hb); (try clear hb2); (try clear hk); (try clear hi)))
                                  go_roundg k3
                                  case measure => have := HJ5.out; have := HJ17.out; have := HK3.out; omega
                                  case rel => exact ⟨(t241), (false), (wrap64 (x14_3 + 1)), (by first | rfl | (simp; done) | (simp [*]; done)), (by first | rfl | (simp; done) | (simp [*]; done)), (by first | rfl | (simp; done) | (simp [*]; done)), H', ⟨by have := HJ5.out; have := HJ17.out; have := HK3.out; omega⟩, ⟨by (with_reducible repeat (first | refine blk_drewN ?_ _ | refine blk_drew ?_ | refine blk_alloc ?_ _)); exact BK229.out⟩, ⟨by repeat (first | (with_reducible first | exact HB.out | apply below_alloc | apply pw_below_drewN | apply below_drew1 | refine below_set ?_ GE229.out) | exact HB.out)⟩⟩
                            · replace c37 := Bool.eq_false_iff.mpr c37
                              subst c37
                              have H1 : (chargeparklaw06_FuseRest.l0 k3 a2 t241 false (wrap64 (x14_3 + 1)) a0_0 a0_1) = some r := by rw [if_neg (show ¬ (false = true) by decide)] at H; exact H
                              clear H
                              have H := H1
                              clear H1
                              have H' := Aside0.mk H
                              clear H
                              have hcz50_0 : wr.cell? ⟨gb229, 0, none⟩ = some (.int .i64 a0_0) := (blk_cell BK229.out 0).trans rfl
                              have hcz50_1 : wr.cell? ⟨gb229, 1, none⟩ = some (.int .i64 a0_1) := (blk_cell BK229.out 1).trans rfl
                              have hfz50_0 := blk_frozen BK229.out 0
                              have hfz50_1 := blk_frozen BK229.out 1
                              go_wp2_with (first | ((with_reducible refine gate_callee (f := 11) rfl ?_); refine goesL_ (some 86) rfl rfl Try.func11 (by kernel_rfl) rfl #[.agg #[.int .i64 a0_0, .int .i64 a0_1], .int .i64 x3_3, .int .i64 0] rfl (by (try simp only [List.map_toArray, List.map_cons, List.map_nil]); first | done | rfl | (simp only [List.length_drop, List.length_take]; rfl)) ?_; (with_reducible refine (fuse_Next.calls a0_0 a0_1 x3_3 0 t241 t242 _ A35.out).mono ?_); rintro e w51 ⟨rfl, hb⟩; refine ⟨_, rfl, ?_⟩; have n0_ := Aside0.mk (blk_below (g := gb229) (o := .cells #[.int .i64 a0_0, .int .i64 a0_1] 23 (0, 0)) (by (with_reducible repeat (first | refine blk_drewN ?_ _ | refine blk_drew ?_ | refine blk_alloc ?_ _)); exact BK229.out) hb); have n1_ := Aside0.mk (below_step (by repeat (first | (with_reducible first | exact HB.out | apply below_alloc | apply pw_below_drewN | apply below_drew1 | refine below_set ?_ GE229.out) | exact HB.out)) hb); clear BK229; clear HB; have BK229 := n0_; have HB := n1_; clear n0_ n1_; (try clear hb); (try clear hb2); (try clear hk); (try clear hi)))
                              go_roundg k3
                              case measure => have := HJ5.out; have := HJ17.out; have := HK3.out; omega
                              case rel => exact ⟨(t241), (false), (wrap64 (x14_3 + 1)), (by first | rfl | (simp; done) | (simp [*]; done)), (by first | rfl | (simp; done) | (simp [*]; done)), (by first | rfl | (simp; done) | (simp [*]; done)), H', ⟨by have := HJ5.out; have := HJ17.out; have := HK3.out; omega⟩, ⟨by (with_reducible repeat (first | refine blk_drewN ?_ _ | refine blk_drew ?_ | refine blk_alloc ?_ _)); exact BK229.out⟩, ⟨by repeat (first | (with_reducible first | exact HB.out | apply below_alloc | apply pw_below_drewN | apply below_drew1 | refine below_set ?_ GE229.out) | exact HB.out)⟩⟩
                          · rw [if_neg c36] at H
                            have c36b0 : (t242 == 0) = false := beq_eq_false_iff_ne.mpr c36
                            have c36b1 : (t242 != 0) = true := bne_iff_ne.mpr c36
                            by_cases c52 : x9_3 = true
                            · subst c52
                              have H1 : (some (x14_3 == 0)) = some r := by rw [if_pos rfl] at H; exact H
                              clear H
                              have H := H1
                              clear H1
                              obtain rfl := Option.some.inj H
                              have hcz53_0 : wr.cell? ⟨gb229, 0, none⟩ = some (.int .i64 a0_0) := (blk_cell BK229.out 0).trans rfl
                              have hcz53_1 : wr.cell? ⟨gb229, 1, none⟩ = some (.int .i64 a0_1) := (blk_cell BK229.out 1).trans rfl
                              have hfz53_0 := blk_frozen BK229.out 0
                              have hfz53_1 := blk_frozen BK229.out 1
                              go_wp2_with (first | ((with_reducible refine gate_callee (f := 11) rfl ?_); refine goesL_ (some 86) rfl rfl Try.func11 (by kernel_rfl) rfl #[.agg #[.int .i64 a0_0, .int .i64 a0_1], .int .i64 x3_3, .int .i64 0] rfl (by (try simp only [List.map_toArray, List.map_cons, List.map_nil]); first | done | rfl | (simp only [List.length_drop, List.length_take]; rfl)) ?_; (with_reducible refine (fuse_Next.calls a0_0 a0_1 x3_3 0 t241 t242 _ A35.out).mono ?_); rintro e w54 ⟨rfl, hb⟩; refine ⟨_, rfl, ?_⟩; have n0_ := Aside0.mk (blk_below (g := gb229) (o := .cells #[.int .i64 a0_0, .int .i64 a0_1] 23 (0, 0)) (by (with_reducible repeat (first | refine blk_drewN ?_ _ | refine blk_drew ?_ | refine blk_alloc ?_ _)); exact BK229.out) hb); have n1_ := Aside0.mk (below_step (by repeat (first | (with_reducible first | exact HB.out | apply below_alloc | apply pw_below_drewN | apply below_drew1 | refine below_set ?_ GE229.out) | exact HB.out)) hb); clear BK229; clear HB; have BK229 := n0_; have HB := n1_; clear n0_ n1_; (try clear hb); (try clear hb2); (try clear hk); (try clear hi)))
                              go_ret
                              exact ⟨by first | rfl | (simp [errW_none, errW_some] <;> rfl) | (simp [*, errW_none, errW_some] <;> rfl), by repeat (first | (with_reducible first | exact HB.out | apply below_alloc | apply pw_below_drewN | apply below_drew1 | refine below_set ?_ GE229.out) | exact HB.out)⟩
                            · replace c52 := Bool.eq_false_iff.mpr c52
                              subst c52
                              have H1 : (some false) = some r := by rw [if_neg (show ¬ (false = true) by decide)] at H; exact H
                              clear H
                              have H := H1
                              clear H1
                              obtain rfl := Option.some.inj H
                              have hcz55_0 : wr.cell? ⟨gb229, 0, none⟩ = some (.int .i64 a0_0) := (blk_cell BK229.out 0).trans rfl
                              have hcz55_1 : wr.cell? ⟨gb229, 1, none⟩ = some (.int .i64 a0_1) := (blk_cell BK229.out 1).trans rfl
                              have hfz55_0 := blk_frozen BK229.out 0
                              have hfz55_1 := blk_frozen BK229.out 1
                              go_wp2_with (first | ((with_reducible refine gate_callee (f := 11) rfl ?_); refine goesL_ (some 86) rfl rfl Try.func11 (by kernel_rfl) rfl #[.agg #[.int .i64 a0_0, .int .i64 a0_1], .int .i64 x3_3, .int .i64 0] rfl (by (try simp only [List.map_toArray, List.map_cons, List.map_nil]); first | done | rfl | (simp only [List.length_drop, List.length_take]; rfl)) ?_; (with_reducible refine (fuse_Next.calls a0_0 a0_1 x3_3 0 t241 t242 _ A35.out).mono ?_); rintro e w56 ⟨rfl, hb⟩; refine ⟨_, rfl, ?_⟩; have n0_ := Aside0.mk (blk_below (g := gb229) (o := .cells #[.int .i64 a0_0, .int .i64 a0_1] 23 (0, 0)) (by (with_reducible repeat (first | refine blk_drewN ?_ _ | refine blk_drew ?_ | refine blk_alloc ?_ _)); exact BK229.out) hb); have n1_ := Aside0.mk (below_step (by repeat (first | (with_reducible first | exact HB.out | apply below_alloc | apply pw_below_drewN | apply below_drew1 | refine below_set ?_ GE229.out) | exact HB.out)) hb); clear BK229; clear HB; have BK229 := n0_; have HB := n1_; clear n0_ n1_; (try clear hb); (try clear hb2); (try clear hk); (try clear hi)))
                              go_ret
                              exact ⟨by first | rfl | (simp [errW_none, errW_some] <;> rfl) | (simp [*, errW_none, errW_some] <;> rfl), by repeat (first | (with_reducible first | exact HB.out | apply below_alloc | apply pw_below_drewN | apply below_drew1 | refine below_set ?_ GE229.out) | exact HB.out)⟩
                        · rw [if_neg c34] at H
                          have c34b0 : decide (x14_3 < a2) = false := decide_eq_false c34
                          clear c34
                          obtain rfl := Option.some.inj H
                          go_wp2
                          go_ret
                          exact ⟨by first | rfl | (simp [errW_none, errW_some] <;> rfl) | (simp [*, errW_none, errW_some] <;> rfl), by repeat (first | (with_reducible first | exact HB.out | apply below_alloc | apply pw_below_drewN | apply below_drew1 | refine below_set ?_ GE229.out) | exact HB.out)⟩
              · rw [if_neg c16] at H
                exact absurd H (by simp)
            · rw [if_neg c15] at H
              exact absurd H (by simp)
          · rw [if_neg c14] at H
            exact absurd H (by simp)
        · rw [if_neg c13] at H
          exact absurd H (by simp)

/-- THE ONE PURE STATEMENT of chargeparklaw06_FuseRest. -/
def chargeparklaw06_FuseRest.Pure : Prop := ∀ (s0 : S23) (l1 : List Int) (a2 : Int) (a3 : Int), (wfS23 s0) → (l1.length ≤ maxLen ∧ ∀ x_ ∈ l1, (Lit.int .i64 x_).wf = true) → ((Lit.int .i64 a2).wf = true) → ((Lit.int .i64 a3).wf = true) → ∃ k, chargeparklaw06_FuseRest.f k s0.f0 s0.f1 l1 a2 a3 = some true
theorem chargeparklaw06_FuseRest.walk (P : chargeparklaw06_FuseRest.Pure) (s0 : S23) (l1 : List Int) (a2 : Int) (a3 : Int) (cs0 : Array Value) (A1 : Option Addr) (c1 : Nat) (w : World) (w0 : wfS23 s0) (w1 : l1.length ≤ maxLen ∧ ∀ x_ ∈ l1, (Lit.int .i64 x_).wf = true) (w2 : (Lit.int .i64 a2).wf = true) (w3 : (Lit.int .i64 a3).wf = true) (K0 : k23.K w s0 cs0.toList) (C1 : Kd.C (Kd.int .i64) w A1 l1.length l1) (hc1 : l1.length ≤ c1) :
    Calls Try.prog 8 #[.agg cs0, .slice A1 l1.length c1, .int .i64 a2, .int .i64 a3] w fun e w' => e = .returned (.bool true) ∧ Below w.heap.size w w' := by
  obtain ⟨k, h⟩ := P s0 l1 a2 a3 w0 w1 w2 w3
  obtain hs0 := k23_open K0
  obtain ⟨L0⟩ := cs0
  obtain rfl : L0 = _ := hs0
  refine (chargeparklaw06_FuseRest.calls k s0.f0 s0.f1 _ _ l1 a2 a3 true w C1 hc1 h).mono ?_
  rintro e w' ⟨rfl, hd⟩
  exact ⟨rfl, hd⟩

end Go.Proofs.Ytnfkddanbhibbaa.Q
