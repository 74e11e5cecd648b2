import Derived.Test.YtilmdlaacpefiaaZe
import Derived.Test.YtilmdlaacpefiaaZQx10
import Derived.Test.YtilmdlaacpefiaaZQx13
set_option linter.unusedVariables false
set_option linter.unusedSimpArgs false
set_option linter.unusedSectionVars false
namespace Go.Proofs.Ytilmdlaacpefiaa.Q
open Go.RowKit Go.Proofs.YtilmdlaacpefiaaW.PrintWords Go.Proofs.YtilmdlaacpefiaaW.PrintLast Go.Proofs.YtilmdlaacpefiaaW.PrintMore
attribute [local go_sem] max2_int min2_int max_two min_two max_three min_three max_four min_four
def w31_MoneyStarted.j0 : Nat → Int → Int → Int → Int → Bool → Bool → Option (Bool)
  | 0, _, _, _, _, _, _ => none
  | k + 1, x0, x1, x2, x3, x9, x48 => if x48 = true then (some x9) else ((money_Started.f x0 x1 x3).bind fun bt215 => ((money_Started.f x0 x2 x3).bind fun bt217 => ((money_Started.f x0 (wrap64 (x1 + x2)) x3).bind fun bt219 => ((money_Started.f x0 (wrap64 (x1 * x3)) x3).bind fun bt221 => (if x9 = true then (if bt215.2 = 0 then (if bt221.2 = 0 then (if bt221.1 = (wrap64 (x1 * x0)) then (if bt217.2 = 0 then (if bt219.2 = 0 then (if (wrap64 (bt215.1 + bt217.1)) ≥ bt219.1 then (some (decide ((wrap64 (bt215.1 + bt217.1)) ≤ (wrap64 (bt219.1 + x0))))) else (some false)) else (some true)) else (some true)) else (some false)) else (some false)) else (some false)) else (some false))))))
def w31_MoneyStarted.f (k : Nat) (a0 : Int) (a1 : Int) (a2 : Int) (a3 : Int) : Option (Bool) := (w31_head.f k).bind fun t214 => (if a1 > 1000000000 then (w31_MoneyStarted.j0 k a0 a1 a2 a3 t214 true) else (if a2 > 1000000000 then (w31_MoneyStarted.j0 k a0 a1 a2 a3 t214 true) else (if a0 < 0 then (w31_MoneyStarted.j0 k a0 a1 a2 a3 t214 true) else (if a0 > 1000000 then (w31_MoneyStarted.j0 k a0 a1 a2 a3 t214 true) else (if a3 < 1 then (w31_MoneyStarted.j0 k a0 a1 a2 a3 t214 true) else (if a3 > 1000 then (w31_MoneyStarted.j0 k a0 a1 a2 a3 t214 true) else (if a1 < 0 then (w31_MoneyStarted.j0 k a0 a1 a2 a3 t214 true) else (w31_MoneyStarted.j0 k a0 a1 a2 a3 t214 (decide (a1 > 500))))))))))
theorem w31_MoneyStarted.mono_l : ∀ k, (∀ y0 y1 y2 y3 y4 y5, LeO (w31_MoneyStarted.j0 k y0 y1 y2 y3 y4 y5) (w31_MoneyStarted.j0 (k + 1) y0 y1 y2 y3 y4 y5))
  | 0 => fun _ _ _ _ _ _ r h => by simp [w31_MoneyStarted.j0] at h
  | k + 1 => by
    have ih0 := w31_MoneyStarted.mono_l k
    · intro y0 y1 y2 y3 y4 y5
      unfold w31_MoneyStarted.j0
      repeat' first | (with_reducible apply ih0) | (with_reducible exact w31_head.mono _) | (with_reducible exact LeO.refl _) | (with_reducible exact LeO.none _) | (with_reducible refine LeO.ite ?_ ?_) | (with_reducible refine LeO.bind ?_ (fun _ => ?_))
theorem w31_MoneyStarted.mono : ∀ a0 a1 a2 a3 k, LeO (w31_MoneyStarted.f k a0 a1 a2 a3) (w31_MoneyStarted.f (k + 1) a0 a1 a2 a3) := by
  intro a0 a1 a2 a3 k
  have ih0 := w31_MoneyStarted.mono_l k
  unfold w31_MoneyStarted.f
  repeat' first | (with_reducible apply ih0) | (with_reducible exact w31_head.mono _) | (with_reducible exact LeO.refl _) | (with_reducible exact LeO.none _) | (with_reducible refine LeO.ite ?_ ?_) | (with_reducible refine LeO.bind ?_ (fun _ => ?_))
set_option maxHeartbeats 8000000 in
set_option maxRecDepth 100000 in
theorem w31_MoneyStarted.calls (k : Nat) (a0 : Int) (a1 : Int) (a2 : Int) (a3 : Int) (r : Bool) (w : World) (h : w31_MoneyStarted.f k a0 a1 a2 a3 = some r) :
    Calls Try.prog 6 #[.int .i64 a0, .int .i64 a1, .int .i64 a2, .int .i64 a3] w fun e w' => e = .returned (.bool r) ∧ Below w.heap.size w w' := by
 have HB := Aside0.mk (Below.refl w.heap.size w)
 (try unfold w31_MoneyStarted.f at h)
 have H := h
 clear h
 obtain ⟨t214, A5, H⟩ := bnd H
 have HC6 := Aside0.mk H
 clear H
 go_enter Try.func6, Try.ntmps6
 go_upto_region 2 with (first | ((with_reducible refine gate_callee (f := 10) rfl ?_); refine gL (some 18) Try.func10 #[] (w31_head.calls k  t214 _ A5.out) ?_; rintro e w7 ⟨rfl, hb⟩; refine ⟨_, rfl, ?_⟩; replace HB := bS (kB HB) hb))
 (try simp only [Act.put, List.setIfInBounds_toArray, List.set_cons_zero, List.set_cons_succ])
 go_cut [48] (fun v48 wc => ∃ (kq : Nat) (x48_5 : Bool), v48 = .bool x48_5 ∧ Aside0 (w31_MoneyStarted.j0 kq a0 a1 a2 a3 t214 x48_5 = some r) ∧ Aside0 (kq ≤ k) ∧ Aside0 (Below w.heap.size w wc))
 case first =>
  have H := HC6.out
  clear HC6
  by_cases c8 : a1 > 1000000000
  ·rw [if_pos c8] at H
   have c8b0 : decide (1000000000 < a1) = true := decide_eq_true c8
   clear c8
   (first | rw [c8b0] | (simp only [i64_w, i32_w]; rw [c8b0]) | skip)
   have H' := Aside0.mk H
   clear H
   go_wp2
   go_meet
   case rel => exact ⟨_, (true), tQ, H', ⟨tN⟩, ⟨kB HB⟩⟩
  rw [if_neg c8] at H
  have c8b0 : decide (1000000000 < a1) = false := decide_eq_false c8
  clear c8
  (first | rw [c8b0] | (simp only [i64_w, i32_w]; rw [c8b0]) | skip)
  by_cases c9 : a2 > 1000000000
  ·rw [if_pos c9] at H
   have c9b0 : decide (1000000000 < a2) = true := decide_eq_true c9
   clear c9
   have H' := Aside0.mk H
   clear H
   go_wp2
   go_meet
   case rel => exact ⟨_, (true), tQ, H', ⟨tN⟩, ⟨kB HB⟩⟩
  rw [if_neg c9] at H
  have c9b0 : decide (1000000000 < a2) = false := decide_eq_false c9
  clear c9
  by_cases c10 : a0 < 0
  ·rw [if_pos c10] at H
   have c10b0 : decide (a0 < 0) = true := decide_eq_true c10
   clear c10
   have H' := Aside0.mk H
   clear H
   go_wp2
   go_meet
   case rel => exact ⟨_, (true), tQ, H', ⟨tN⟩, ⟨kB HB⟩⟩
  rw [if_neg c10] at H
  have c10b0 : decide (a0 < 0) = false := decide_eq_false c10
  clear c10
  by_cases c11 : a0 > 1000000
  ·rw [if_pos c11] at H
   have c11b0 : decide (1000000 < a0) = true := decide_eq_true c11
   clear c11
   have H' := Aside0.mk H
   clear H
   go_wp2
   go_meet
   case rel => exact ⟨_, (true), tQ, H', ⟨tN⟩, ⟨kB HB⟩⟩
  rw [if_neg c11] at H
  have c11b0 : decide (1000000 < a0) = false := decide_eq_false c11
  clear c11
  by_cases c12 : a3 < 1
  ·rw [if_pos c12] at H
   have c12b0 : decide (a3 < 1) = true := decide_eq_true c12
   clear c12
   have H' := Aside0.mk H
   clear H
   go_wp2
   go_meet
   case rel => exact ⟨_, (true), tQ, H', ⟨tN⟩, ⟨kB HB⟩⟩
  rw [if_neg c12] at H
  have c12b0 : decide (a3 < 1) = false := decide_eq_false c12
  clear c12
  by_cases c13 : a3 > 1000
  ·rw [if_pos c13] at H
   have c13b0 : decide (1000 < a3) = true := decide_eq_true c13
   clear c13
   have H' := Aside0.mk H
   clear H
   go_wp2
   go_meet
   case rel => exact ⟨_, (true), tQ, H', ⟨tN⟩, ⟨kB HB⟩⟩
  rw [if_neg c13] at H
  have c13b0 : decide (1000 < a3) = false := decide_eq_false c13
  clear c13
  by_cases c14 : a1 < 0
  ·rw [if_pos c14] at H
   have c14b0 : decide (a1 < 0) = true := decide_eq_true c14
   clear c14
   have H' := Aside0.mk H
   clear H
   go_wp2
   go_meet
   case rel => exact ⟨_, (true), tQ, H', ⟨tN⟩, ⟨kB HB⟩⟩
  rw [if_neg c14] at H
  have c14b0 : decide (a1 < 0) = false := decide_eq_false c14
  clear c14
  have H' := Aside0.mk H
  clear H
  go_wp2
  go_meet
  case rel => exact ⟨_, (decide (a1 > 500)), tQ, H', ⟨tN⟩, ⟨kB HB⟩⟩
 case rest =>
  clear HC6
  obtain ⟨kq, x48_5, rfl, HA, HJ5, HB⟩ := hcut
  cases kq with
  | zero => exact absurd HA.out (by simp [w31_MoneyStarted.j0])
  | succ kj5 =>
   have H := HA.out
   clear HA
   simp only [w31_MoneyStarted.j0] at H
   by_cases c15 : x48_5 = true
   ·subst c15
    replace H := ifT H
    obtain rfl := Option.some.inj H
    go_wp2
    go_ret
    exact ⟨tE, kB HB⟩
   replace c15 := Bool.eq_false_iff.mpr c15
   subst c15
   replace H := ifF H
   obtain ⟨⟨t215, t216⟩, A16, H⟩ := bnd H
   dsimp only at H
   obtain ⟨⟨t217, t218⟩, A17, H⟩ := bnd H
   dsimp only at H
   obtain ⟨⟨t219, t220⟩, A18, H⟩ := bnd H
   dsimp only at H
   obtain ⟨⟨t221, t222⟩, A19, H⟩ := bnd H
   dsimp only at H
   by_cases c20 : t214 = true
   rotate_left
   ·replace c20 := Bool.eq_false_iff.mpr c20
    subst c20
    replace H := ifF H
    obtain rfl := Option.some.inj H
    go_wp2_with (first | ((with_reducible refine gate_callee (f := 13) rfl ?_); refine gL (some 54) Try.func13 #[.int .i64 a0, .int .i64 a1, .int .i64 a3] (money_Started.calls a0 a1 a3 t215 t216 _ A16.out) ?_; rintro e w55 ⟨rfl, hb⟩; refine ⟨_, rfl, ?_⟩; replace HB := bS (kB HB) hb) | ((with_reducible refine gate_callee (f := 13) rfl ?_); refine gL (some 61) Try.func13 #[.int .i64 a0, .int .i64 a2, .int .i64 a3] (money_Started.calls a0 a2 a3 t217 t218 _ A17.out) ?_; rintro e w56 ⟨rfl, hb⟩; refine ⟨_, rfl, ?_⟩; replace HB := bS (kB HB) hb) | ((with_reducible refine gate_callee (f := 13) rfl ?_); refine gL (some 70) Try.func13 #[.int .i64 a0, .int .i64 (wrap64 (a1 + a2)), .int .i64 a3] (money_Started.calls a0 (wrap64 (a1 + a2)) a3 t219 t220 _ A18.out) ?_; rintro e w57 ⟨rfl, hb⟩; refine ⟨_, rfl, ?_⟩; replace HB := bS (kB HB) hb) | ((with_reducible refine gate_callee (f := 13) rfl ?_); refine gL (some 79) Try.func13 #[.int .i64 a0, .int .i64 (wrap64 (a1 * a3)), .int .i64 a3] (money_Started.calls a0 (wrap64 (a1 * a3)) a3 t221 t222 _ A19.out) ?_; rintro e w58 ⟨rfl, hb⟩; refine ⟨_, rfl, ?_⟩; replace HB := bS (kB HB) hb))
    go_ret
    exact ⟨tE, kB HB⟩
   subst c20
   replace H := ifT H
   by_cases c21 : t216 = 0
   rotate_left
   ·rw [if_neg c21] at H
    have c21b0 : (t216 == 0) = false := beq_eq_false_iff_ne.mpr c21
    have c21b1 : (t216 != 0) = true := bne_iff_ne.mpr c21
    obtain rfl := Option.some.inj H
    go_wp2_with (first | ((with_reducible refine gate_callee (f := 13) rfl ?_); refine gL (some 54) Try.func13 #[.int .i64 a0, .int .i64 a1, .int .i64 a3] (money_Started.calls a0 a1 a3 t215 t216 _ A16.out) ?_; rintro e w51 ⟨rfl, hb⟩; refine ⟨_, rfl, ?_⟩; replace HB := bS (kB HB) hb) | ((with_reducible refine gate_callee (f := 13) rfl ?_); refine gL (some 61) Try.func13 #[.int .i64 a0, .int .i64 a2, .int .i64 a3] (money_Started.calls a0 a2 a3 t217 t218 _ A17.out) ?_; rintro e w52 ⟨rfl, hb⟩; refine ⟨_, rfl, ?_⟩; replace HB := bS (kB HB) hb) | ((with_reducible refine gate_callee (f := 13) rfl ?_); refine gL (some 70) Try.func13 #[.int .i64 a0, .int .i64 (wrap64 (a1 + a2)), .int .i64 a3] (money_Started.calls a0 (wrap64 (a1 + a2)) a3 t219 t220 _ A18.out) ?_; rintro e w53 ⟨rfl, hb⟩; refine ⟨_, rfl, ?_⟩; replace HB := bS (kB HB) hb) | ((with_reducible refine gate_callee (f := 13) rfl ?_); refine gL (some 79) Try.func13 #[.int .i64 a0, .int .i64 (wrap64 (a1 * a3)), .int .i64 a3] (money_Started.calls a0 (wrap64 (a1 * a3)) a3 t221 t222 _ A19.out) ?_; rintro e w54 ⟨rfl, hb⟩; refine ⟨_, rfl, ?_⟩; replace HB := bS (kB HB) hb))
    go_ret
    exact ⟨tE, kB HB⟩
   rw [if_pos c21] at H
   have c21b0 : (t216 == 0) = true := beq_iff_eq.mpr c21
   have c21b1 : (t216 != 0) = false := bne_eq_false_iff_eq.mpr c21
   clear c21
   by_cases c22 : t222 = 0
   rotate_left
   ·rw [if_neg c22] at H
    have c22b0 : (t222 == 0) = false := beq_eq_false_iff_ne.mpr c22
    have c22b1 : (t222 != 0) = true := bne_iff_ne.mpr c22
    obtain rfl := Option.some.inj H
    go_wp2_with (first | ((with_reducible refine gate_callee (f := 13) rfl ?_); refine gL (some 54) Try.func13 #[.int .i64 a0, .int .i64 a1, .int .i64 a3] (money_Started.calls a0 a1 a3 t215 t216 _ A16.out) ?_; rintro e w47 ⟨rfl, hb⟩; refine ⟨_, rfl, ?_⟩; replace HB := bS (kB HB) hb) | ((with_reducible refine gate_callee (f := 13) rfl ?_); refine gL (some 61) Try.func13 #[.int .i64 a0, .int .i64 a2, .int .i64 a3] (money_Started.calls a0 a2 a3 t217 t218 _ A17.out) ?_; rintro e w48 ⟨rfl, hb⟩; refine ⟨_, rfl, ?_⟩; replace HB := bS (kB HB) hb) | ((with_reducible refine gate_callee (f := 13) rfl ?_); refine gL (some 70) Try.func13 #[.int .i64 a0, .int .i64 (wrap64 (a1 + a2)), .int .i64 a3] (money_Started.calls a0 (wrap64 (a1 + a2)) a3 t219 t220 _ A18.out) ?_; rintro e w49 ⟨rfl, hb⟩; refine ⟨_, rfl, ?_⟩; replace HB := bS (kB HB) hb) | ((with_reducible refine gate_callee (f := 13) rfl ?_); refine gL (some 79) Try.func13 #[.int .i64 a0, .int .i64 (wrap64 (a1 * a3)), .int .i64 a3] (money_Started.calls a0 (wrap64 (a1 * a3)) a3 t221 t222 _ A19.out) ?_; rintro e w50 ⟨rfl, hb⟩; refine ⟨_, rfl, ?_⟩; replace HB := bS (kB HB) hb))
    go_ret
    exact ⟨tE, kB HB⟩
   rw [if_pos c22] at H
   have c22b0 : (t222 == 0) = true := beq_iff_eq.mpr c22
   have c22b1 : (t222 != 0) = false := bne_eq_false_iff_eq.mpr c22
   clear c22
   by_cases c23 : t221 = (wrap64 (a1 * a0))
   rotate_left
   ·rw [if_neg c23] at H
    have c23b0 : (t221 == (wrap64 (a1 * a0))) = false := beq_eq_false_iff_ne.mpr c23
    have c23b1 : (t221 != (wrap64 (a1 * a0))) = true := bne_iff_ne.mpr c23
    obtain rfl := Option.some.inj H
    go_wp2_with (first | ((with_reducible refine gate_callee (f := 13) rfl ?_); refine gL (some 54) Try.func13 #[.int .i64 a0, .int .i64 a1, .int .i64 a3] (money_Started.calls a0 a1 a3 t215 t216 _ A16.out) ?_; rintro e w43 ⟨rfl, hb⟩; refine ⟨_, rfl, ?_⟩; replace HB := bS (kB HB) hb) | ((with_reducible refine gate_callee (f := 13) rfl ?_); refine gL (some 61) Try.func13 #[.int .i64 a0, .int .i64 a2, .int .i64 a3] (money_Started.calls a0 a2 a3 t217 t218 _ A17.out) ?_; rintro e w44 ⟨rfl, hb⟩; refine ⟨_, rfl, ?_⟩; replace HB := bS (kB HB) hb) | ((with_reducible refine gate_callee (f := 13) rfl ?_); refine gL (some 70) Try.func13 #[.int .i64 a0, .int .i64 (wrap64 (a1 + a2)), .int .i64 a3] (money_Started.calls a0 (wrap64 (a1 + a2)) a3 t219 t220 _ A18.out) ?_; rintro e w45 ⟨rfl, hb⟩; refine ⟨_, rfl, ?_⟩; replace HB := bS (kB HB) hb) | ((with_reducible refine gate_callee (f := 13) rfl ?_); refine gL (some 79) Try.func13 #[.int .i64 a0, .int .i64 (wrap64 (a1 * a3)), .int .i64 a3] (money_Started.calls a0 (wrap64 (a1 * a3)) a3 t221 t222 _ A19.out) ?_; rintro e w46 ⟨rfl, hb⟩; refine ⟨_, rfl, ?_⟩; replace HB := bS (kB HB) hb))
    go_ret
    exact ⟨tE, kB HB⟩
   rw [if_pos c23] at H
   have c23b0 : (t221 == (wrap64 (a1 * a0))) = true := beq_iff_eq.mpr c23
   have c23b1 : (t221 != (wrap64 (a1 * a0))) = false := bne_eq_false_iff_eq.mpr c23
   clear c23
   by_cases c24 : t218 = 0
   rotate_left
   ·rw [if_neg c24] at H
    have c24b0 : (t218 == 0) = false := beq_eq_false_iff_ne.mpr c24
    have c24b1 : (t218 != 0) = true := bne_iff_ne.mpr c24
    obtain rfl := Option.some.inj H
    go_wp2_with (first | ((with_reducible refine gate_callee (f := 13) rfl ?_); refine gL (some 54) Try.func13 #[.int .i64 a0, .int .i64 a1, .int .i64 a3] (money_Started.calls a0 a1 a3 t215 t216 _ A16.out) ?_; rintro e w39 ⟨rfl, hb⟩; refine ⟨_, rfl, ?_⟩; replace HB := bS (kB HB) hb) | ((with_reducible refine gate_callee (f := 13) rfl ?_); refine gL (some 61) Try.func13 #[.int .i64 a0, .int .i64 a2, .int .i64 a3] (money_Started.calls a0 a2 a3 t217 t218 _ A17.out) ?_; rintro e w40 ⟨rfl, hb⟩; refine ⟨_, rfl, ?_⟩; replace HB := bS (kB HB) hb) | ((with_reducible refine gate_callee (f := 13) rfl ?_); refine gL (some 70) Try.func13 #[.int .i64 a0, .int .i64 (wrap64 (a1 + a2)), .int .i64 a3] (money_Started.calls a0 (wrap64 (a1 + a2)) a3 t219 t220 _ A18.out) ?_; rintro e w41 ⟨rfl, hb⟩; refine ⟨_, rfl, ?_⟩; replace HB := bS (kB HB) hb) | ((with_reducible refine gate_callee (f := 13) rfl ?_); refine gL (some 79) Try.func13 #[.int .i64 a0, .int .i64 (wrap64 (a1 * a3)), .int .i64 a3] (money_Started.calls a0 (wrap64 (a1 * a3)) a3 t221 t222 _ A19.out) ?_; rintro e w42 ⟨rfl, hb⟩; refine ⟨_, rfl, ?_⟩; replace HB := bS (kB HB) hb))
    go_ret
    exact ⟨tE, kB HB⟩
   rw [if_pos c24] at H
   have c24b0 : (t218 == 0) = true := beq_iff_eq.mpr c24
   have c24b1 : (t218 != 0) = false := bne_eq_false_iff_eq.mpr c24
   clear c24
   by_cases c25 : t220 = 0
   rotate_left
   ·rw [if_neg c25] at H
    have c25b0 : (t220 == 0) = false := beq_eq_false_iff_ne.mpr c25
    have c25b1 : (t220 != 0) = true := bne_iff_ne.mpr c25
    obtain rfl := Option.some.inj H
    go_wp2_with (first | ((with_reducible refine gate_callee (f := 13) rfl ?_); refine gL (some 54) Try.func13 #[.int .i64 a0, .int .i64 a1, .int .i64 a3] (money_Started.calls a0 a1 a3 t215 t216 _ A16.out) ?_; rintro e w35 ⟨rfl, hb⟩; refine ⟨_, rfl, ?_⟩; replace HB := bS (kB HB) hb) | ((with_reducible refine gate_callee (f := 13) rfl ?_); refine gL (some 61) Try.func13 #[.int .i64 a0, .int .i64 a2, .int .i64 a3] (money_Started.calls a0 a2 a3 t217 t218 _ A17.out) ?_; rintro e w36 ⟨rfl, hb⟩; refine ⟨_, rfl, ?_⟩; replace HB := bS (kB HB) hb) | ((with_reducible refine gate_callee (f := 13) rfl ?_); refine gL (some 70) Try.func13 #[.int .i64 a0, .int .i64 (wrap64 (a1 + a2)), .int .i64 a3] (money_Started.calls a0 (wrap64 (a1 + a2)) a3 t219 t220 _ A18.out) ?_; rintro e w37 ⟨rfl, hb⟩; refine ⟨_, rfl, ?_⟩; replace HB := bS (kB HB) hb) | ((with_reducible refine gate_callee (f := 13) rfl ?_); refine gL (some 79) Try.func13 #[.int .i64 a0, .int .i64 (wrap64 (a1 * a3)), .int .i64 a3] (money_Started.calls a0 (wrap64 (a1 * a3)) a3 t221 t222 _ A19.out) ?_; rintro e w38 ⟨rfl, hb⟩; refine ⟨_, rfl, ?_⟩; replace HB := bS (kB HB) hb))
    go_ret
    exact ⟨tE, kB HB⟩
   rw [if_pos c25] at H
   have c25b0 : (t220 == 0) = true := beq_iff_eq.mpr c25
   have c25b1 : (t220 != 0) = false := bne_eq_false_iff_eq.mpr c25
   clear c25
   by_cases c26 : (wrap64 (t215 + t217)) ≥ t219
   ·rw [if_pos c26] at H
    have c26b0 : decide (t219 ≤ (wrap64 (t215 + t217))) = true := decide_eq_true c26
    clear c26
    obtain rfl := Option.some.inj H
    go_wp2_with (first | ((with_reducible refine gate_callee (f := 13) rfl ?_); refine gL (some 54) Try.func13 #[.int .i64 a0, .int .i64 a1, .int .i64 a3] (money_Started.calls a0 a1 a3 t215 t216 _ A16.out) ?_; rintro e w27 ⟨rfl, hb⟩; refine ⟨_, rfl, ?_⟩; replace HB := bS (kB HB) hb) | ((with_reducible refine gate_callee (f := 13) rfl ?_); refine gL (some 61) Try.func13 #[.int .i64 a0, .int .i64 a2, .int .i64 a3] (money_Started.calls a0 a2 a3 t217 t218 _ A17.out) ?_; rintro e w28 ⟨rfl, hb⟩; refine ⟨_, rfl, ?_⟩; replace HB := bS (kB HB) hb) | ((with_reducible refine gate_callee (f := 13) rfl ?_); refine gL (some 70) Try.func13 #[.int .i64 a0, .int .i64 (wrap64 (a1 + a2)), .int .i64 a3] (money_Started.calls a0 (wrap64 (a1 + a2)) a3 t219 t220 _ A18.out) ?_; rintro e w29 ⟨rfl, hb⟩; refine ⟨_, rfl, ?_⟩; replace HB := bS (kB HB) hb) | ((with_reducible refine gate_callee (f := 13) rfl ?_); refine gL (some 79) Try.func13 #[.int .i64 a0, .int .i64 (wrap64 (a1 * a3)), .int .i64 a3] (money_Started.calls a0 (wrap64 (a1 * a3)) a3 t221 t222 _ A19.out) ?_; rintro e w30 ⟨rfl, hb⟩; refine ⟨_, rfl, ?_⟩; replace HB := bS (kB HB) hb))
    go_ret
    exact ⟨tE, kB HB⟩
   rw [if_neg c26] at H
   have c26b0 : decide (t219 ≤ (wrap64 (t215 + t217))) = false := decide_eq_false c26
   clear c26
   obtain rfl := Option.some.inj H
   go_wp2_with (first | ((with_reducible refine gate_callee (f := 13) rfl ?_); refine gL (some 54) Try.func13 #[.int .i64 a0, .int .i64 a1, .int .i64 a3] (money_Started.calls a0 a1 a3 t215 t216 _ A16.out) ?_; rintro e w31 ⟨rfl, hb⟩; refine ⟨_, rfl, ?_⟩; replace HB := bS (kB HB) hb) | ((with_reducible refine gate_callee (f := 13) rfl ?_); refine gL (some 61) Try.func13 #[.int .i64 a0, .int .i64 a2, .int .i64 a3] (money_Started.calls a0 a2 a3 t217 t218 _ A17.out) ?_; rintro e w32 ⟨rfl, hb⟩; refine ⟨_, rfl, ?_⟩; replace HB := bS (kB HB) hb) | ((with_reducible refine gate_callee (f := 13) rfl ?_); refine gL (some 70) Try.func13 #[.int .i64 a0, .int .i64 (wrap64 (a1 + a2)), .int .i64 a3] (money_Started.calls a0 (wrap64 (a1 + a2)) a3 t219 t220 _ A18.out) ?_; rintro e w33 ⟨rfl, hb⟩; refine ⟨_, rfl, ?_⟩; replace HB := bS (kB HB) hb) | ((with_reducible refine gate_callee (f := 13) rfl ?_); refine gL (some 79) Try.func13 #[.int .i64 a0, .int .i64 (wrap64 (a1 * a3)), .int .i64 a3] (money_Started.calls a0 (wrap64 (a1 * a3)) a3 t221 t222 _ A19.out) ?_; rintro e w34 ⟨rfl, hb⟩; refine ⟨_, rfl, ?_⟩; replace HB := bS (kB HB) hb))
   go_ret
   exact ⟨tE, kB HB⟩
def w31_MoneyStarted.Pure : Prop := ∀ (a0 : Int) (a1 : Int) (a2 : Int) (a3 : Int), ((Lit.int .i64 a0).wf = true) → ((Lit.int .i64 a1).wf = true) → ((Lit.int .i64 a2).wf = true) → ((Lit.int .i64 a3).wf = true) → ∃ k, w31_MoneyStarted.f k a0 a1 a2 a3 = some true
theorem w31_MoneyStarted.walk (P : w31_MoneyStarted.Pure) (a0 : Int) (a1 : Int) (a2 : Int) (a3 : Int)  (w : World) (w0 : (Lit.int .i64 a0).wf = true) (w1 : (Lit.int .i64 a1).wf = true) (w2 : (Lit.int .i64 a2).wf = true) (w3 : (Lit.int .i64 a3).wf = true)  :
    Calls Try.prog 6 #[.int .i64 a0, .int .i64 a1, .int .i64 a2, .int .i64 a3] w fun e w' => e = .returned (.bool true) ∧ Below w.heap.size w w' := by
 obtain ⟨k, h⟩ := P a0 a1 a2 a3 w0 w1 w2 w3
 refine (w31_MoneyStarted.calls k a0 a1 a2 a3 true w  h).mono ?_
 rintro e w' ⟨rfl, hd⟩
 exact ⟨rfl, hd⟩
end Go.Proofs.Ytilmdlaacpefiaa.Q
