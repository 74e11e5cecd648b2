import Derived.Test.YtilmdlaacpefiaaZe
import Derived.Test.YtilmdlaacpefiaaZQx10
import Derived.Test.YtilmdlaacpefiaaZQx13
set_option linter.unusedVariables false
set_option linter.unusedSimpArgs false
set_option linter.unusedSectionVars false
namespace Go.Proofs.Ytilmdlaacpefiaa.Q
open Go.RowKit Go.Proofs.YtilmdlaacpefiaaW.PrintWords Go.Proofs.YtilmdlaacpefiaaW.PrintLast Go.Proofs.YtilmdlaacpefiaaW.PrintMore
attribute [local go_sem] max2_int min2_int max_two min_two max_three min_three max_four min_four
def w31_MoneyParts.j0 : Nat → Int → Int → Int → Int → Bool → Bool → Option (Bool)
  | 0, _, _, _, _, _, _ => none
  | k + 1, x0, x1, x2, x3, x9, x22 => if x22 = true then (some x9) else ((money_Times.f x0 x1 x3).bind fun bt208 => ((money_Times.f x0 x2 x3).bind fun bt210 => ((money_Times.f x0 (wrap64 (x1 + x2)) x3).bind fun bt212 => (if x9 = true then (if bt208.2 = 0 then (if bt210.2 = 0 then (if bt212.2 = 0 then (if (wrap64 ((wrap64 (bt208.1 + bt210.1)) - bt212.1)) ≤ 1 then (some (decide ((wrap64 ((wrap64 (bt212.1 - bt208.1)) - bt210.1)) ≤ 1))) else (some false)) else (some true)) else (some true)) else (some true)) else (some false)))))
def w31_MoneyParts.f (k : Nat) (a0 : Int) (a1 : Int) (a2 : Int) (a3 : Int) : Option (Bool) := (w31_head.f k).bind fun t207 => (if a1 > 1000000000 then (w31_MoneyParts.j0 k a0 a1 a2 a3 t207 true) else (w31_MoneyParts.j0 k a0 a1 a2 a3 t207 (decide (a2 > 1000000000))))
theorem w31_MoneyParts.mono_l : ∀ k, (∀ y0 y1 y2 y3 y4 y5, LeO (w31_MoneyParts.j0 k y0 y1 y2 y3 y4 y5) (w31_MoneyParts.j0 (k + 1) y0 y1 y2 y3 y4 y5))
  | 0 => fun _ _ _ _ _ _ r h => by simp [w31_MoneyParts.j0] at h
  | k + 1 => by
    have ih0 := w31_MoneyParts.mono_l k
    · intro y0 y1 y2 y3 y4 y5
      unfold w31_MoneyParts.j0
      repeat' first | (with_reducible apply ih0) | (with_reducible exact w31_head.mono _) | (with_reducible exact LeO.refl _) | (with_reducible exact LeO.none _) | (with_reducible refine LeO.ite ?_ ?_) | (with_reducible refine LeO.bind ?_ (fun _ => ?_))
theorem w31_MoneyParts.mono : ∀ a0 a1 a2 a3 k, LeO (w31_MoneyParts.f k a0 a1 a2 a3) (w31_MoneyParts.f (k + 1) a0 a1 a2 a3) := by
  intro a0 a1 a2 a3 k
  have ih0 := w31_MoneyParts.mono_l k
  unfold w31_MoneyParts.f
  repeat' first | (with_reducible apply ih0) | (with_reducible exact w31_head.mono _) | (with_reducible exact LeO.refl _) | (with_reducible exact LeO.none _) | (with_reducible refine LeO.ite ?_ ?_) | (with_reducible refine LeO.bind ?_ (fun _ => ?_))
set_option maxHeartbeats 8000000 in
set_option maxRecDepth 100000 in
theorem w31_MoneyParts.calls (k : Nat) (a0 : Int) (a1 : Int) (a2 : Int) (a3 : Int) (r : Bool) (w : World) (h : w31_MoneyParts.f k a0 a1 a2 a3 = some r) :
    Calls Try.prog 5 #[.int .i64 a0, .int .i64 a1, .int .i64 a2, .int .i64 a3] w fun e w' => e = .returned (.bool r) ∧ Below w.heap.size w w' := by
 have HB := Aside0.mk (Below.refl w.heap.size w)
 (try unfold w31_MoneyParts.f at h)
 have H := h
 clear h
 obtain ⟨t207, A5, H⟩ := bnd H
 have HC6 := Aside0.mk H
 clear H
 go_enter Try.func5, Try.ntmps5
 go_upto_region 2 with (first | ((with_reducible refine gate_callee (f := 10) rfl ?_); refine gL (some 16) Try.func10 #[] (w31_head.calls k  t207 _ A5.out) ?_; rintro e w7 ⟨rfl, hb⟩; refine ⟨_, rfl, ?_⟩; replace HB := bS (kB HB) hb))
 (try simp only [Act.put, List.setIfInBounds_toArray, List.set_cons_zero, List.set_cons_succ])
 go_cut [22] (fun v22 wc => ∃ (kq : Nat) (x22_5 : Bool), v22 = .bool x22_5 ∧ Aside0 (w31_MoneyParts.j0 kq a0 a1 a2 a3 t207 x22_5 = some r) ∧ Aside0 (kq ≤ k) ∧ Aside0 (Below w.heap.size w wc))
 case first =>
  have H := HC6.out
  clear HC6
  by_cases c8 : a1 > 1000000000
  ·rw [if_pos c8] at H
   have c8b0 : decide (1000000000 < a1) = true := decide_eq_true c8
   clear c8
   (first | rw [c8b0] | (simp only [i64_w, i32_w]; rw [c8b0]) | skip)
   have H' := Aside0.mk H
   clear H
   go_wp2
   go_meet
   case rel => exact ⟨_, (true), tQ, H', ⟨tN⟩, ⟨kB HB⟩⟩
  rw [if_neg c8] at H
  have c8b0 : decide (1000000000 < a1) = false := decide_eq_false c8
  clear c8
  (first | rw [c8b0] | (simp only [i64_w, i32_w]; rw [c8b0]) | skip)
  have H' := Aside0.mk H
  clear H
  go_wp2
  go_meet
  case rel => exact ⟨_, (decide (a2 > 1000000000)), tQ, H', ⟨tN⟩, ⟨kB HB⟩⟩
 case rest =>
  clear HC6
  obtain ⟨kq, x22_5, rfl, HA, HJ5, HB⟩ := hcut
  cases kq with
  | zero => exact absurd HA.out (by simp [w31_MoneyParts.j0])
  | succ kj5 =>
   have H := HA.out
   clear HA
   simp only [w31_MoneyParts.j0] at H
   by_cases c9 : x22_5 = true
   ·subst c9
    replace H := ifT H
    obtain rfl := Option.some.inj H
    go_wp2
    go_ret
    exact ⟨tE, kB HB⟩
   replace c9 := Bool.eq_false_iff.mpr c9
   subst c9
   replace H := ifF H
   obtain ⟨⟨t208, t209⟩, A10, H⟩ := bnd H
   dsimp only at H
   obtain ⟨⟨t210, t211⟩, A11, H⟩ := bnd H
   dsimp only at H
   obtain ⟨⟨t212, t213⟩, A12, H⟩ := bnd H
   dsimp only at H
   by_cases c13 : t207 = true
   rotate_left
   ·replace c13 := Bool.eq_false_iff.mpr c13
    subst c13
    replace H := ifF H
    obtain rfl := Option.some.inj H
    go_wp2_with (first | ((with_reducible refine gate_callee (f := 11) rfl ?_); refine gL (some 28) Try.func11 #[.int .i64 a0, .int .i64 a1, .int .i64 a3] (money_Times.calls a0 a1 a3 t208 t209 _ A10.out) ?_; rintro e w33 ⟨rfl, hb⟩; refine ⟨_, rfl, ?_⟩; replace HB := bS (kB HB) hb) | ((with_reducible refine gate_callee (f := 11) rfl ?_); refine gL (some 35) Try.func11 #[.int .i64 a0, .int .i64 a2, .int .i64 a3] (money_Times.calls a0 a2 a3 t210 t211 _ A11.out) ?_; rintro e w34 ⟨rfl, hb⟩; refine ⟨_, rfl, ?_⟩; replace HB := bS (kB HB) hb) | ((with_reducible refine gate_callee (f := 11) rfl ?_); refine gL (some 44) Try.func11 #[.int .i64 a0, .int .i64 (wrap64 (a1 + a2)), .int .i64 a3] (money_Times.calls a0 (wrap64 (a1 + a2)) a3 t212 t213 _ A12.out) ?_; rintro e w35 ⟨rfl, hb⟩; refine ⟨_, rfl, ?_⟩; replace HB := bS (kB HB) hb))
    go_ret
    exact ⟨tE, kB HB⟩
   subst c13
   replace H := ifT H
   by_cases c14 : t209 = 0
   rotate_left
   ·rw [if_neg c14] at H
    have c14b0 : (t209 == 0) = false := beq_eq_false_iff_ne.mpr c14
    have c14b1 : (t209 != 0) = true := bne_iff_ne.mpr c14
    obtain rfl := Option.some.inj H
    go_wp2_with (first | ((with_reducible refine gate_callee (f := 11) rfl ?_); refine gL (some 28) Try.func11 #[.int .i64 a0, .int .i64 a1, .int .i64 a3] (money_Times.calls a0 a1 a3 t208 t209 _ A10.out) ?_; rintro e w30 ⟨rfl, hb⟩; refine ⟨_, rfl, ?_⟩; replace HB := bS (kB HB) hb) | ((with_reducible refine gate_callee (f := 11) rfl ?_); refine gL (some 35) Try.func11 #[.int .i64 a0, .int .i64 a2, .int .i64 a3] (money_Times.calls a0 a2 a3 t210 t211 _ A11.out) ?_; rintro e w31 ⟨rfl, hb⟩; refine ⟨_, rfl, ?_⟩; replace HB := bS (kB HB) hb) | ((with_reducible refine gate_callee (f := 11) rfl ?_); refine gL (some 44) Try.func11 #[.int .i64 a0, .int .i64 (wrap64 (a1 + a2)), .int .i64 a3] (money_Times.calls a0 (wrap64 (a1 + a2)) a3 t212 t213 _ A12.out) ?_; rintro e w32 ⟨rfl, hb⟩; refine ⟨_, rfl, ?_⟩; replace HB := bS (kB HB) hb))
    go_ret
    exact ⟨tE, kB HB⟩
   rw [if_pos c14] at H
   have c14b0 : (t209 == 0) = true := beq_iff_eq.mpr c14
   have c14b1 : (t209 != 0) = false := bne_eq_false_iff_eq.mpr c14
   clear c14
   by_cases c15 : t211 = 0
   rotate_left
   ·rw [if_neg c15] at H
    have c15b0 : (t211 == 0) = false := beq_eq_false_iff_ne.mpr c15
    have c15b1 : (t211 != 0) = true := bne_iff_ne.mpr c15
    obtain rfl := Option.some.inj H
    go_wp2_with (first | ((with_reducible refine gate_callee (f := 11) rfl ?_); refine gL (some 28) Try.func11 #[.int .i64 a0, .int .i64 a1, .int .i64 a3] (money_Times.calls a0 a1 a3 t208 t209 _ A10.out) ?_; rintro e w27 ⟨rfl, hb⟩; refine ⟨_, rfl, ?_⟩; replace HB := bS (kB HB) hb) | ((with_reducible refine gate_callee (f := 11) rfl ?_); refine gL (some 35) Try.func11 #[.int .i64 a0, .int .i64 a2, .int .i64 a3] (money_Times.calls a0 a2 a3 t210 t211 _ A11.out) ?_; rintro e w28 ⟨rfl, hb⟩; refine ⟨_, rfl, ?_⟩; replace HB := bS (kB HB) hb) | ((with_reducible refine gate_callee (f := 11) rfl ?_); refine gL (some 44) Try.func11 #[.int .i64 a0, .int .i64 (wrap64 (a1 + a2)), .int .i64 a3] (money_Times.calls a0 (wrap64 (a1 + a2)) a3 t212 t213 _ A12.out) ?_; rintro e w29 ⟨rfl, hb⟩; refine ⟨_, rfl, ?_⟩; replace HB := bS (kB HB) hb))
    go_ret
    exact ⟨tE, kB HB⟩
   rw [if_pos c15] at H
   have c15b0 : (t211 == 0) = true := beq_iff_eq.mpr c15
   have c15b1 : (t211 != 0) = false := bne_eq_false_iff_eq.mpr c15
   clear c15
   by_cases c16 : t213 = 0
   rotate_left
   ·rw [if_neg c16] at H
    have c16b0 : (t213 == 0) = false := beq_eq_false_iff_ne.mpr c16
    have c16b1 : (t213 != 0) = true := bne_iff_ne.mpr c16
    obtain rfl := Option.some.inj H
    go_wp2_with (first | ((with_reducible refine gate_callee (f := 11) rfl ?_); refine gL (some 28) Try.func11 #[.int .i64 a0, .int .i64 a1, .int .i64 a3] (money_Times.calls a0 a1 a3 t208 t209 _ A10.out) ?_; rintro e w24 ⟨rfl, hb⟩; refine ⟨_, rfl, ?_⟩; replace HB := bS (kB HB) hb) | ((with_reducible refine gate_callee (f := 11) rfl ?_); refine gL (some 35) Try.func11 #[.int .i64 a0, .int .i64 a2, .int .i64 a3] (money_Times.calls a0 a2 a3 t210 t211 _ A11.out) ?_; rintro e w25 ⟨rfl, hb⟩; refine ⟨_, rfl, ?_⟩; replace HB := bS (kB HB) hb) | ((with_reducible refine gate_callee (f := 11) rfl ?_); refine gL (some 44) Try.func11 #[.int .i64 a0, .int .i64 (wrap64 (a1 + a2)), .int .i64 a3] (money_Times.calls a0 (wrap64 (a1 + a2)) a3 t212 t213 _ A12.out) ?_; rintro e w26 ⟨rfl, hb⟩; refine ⟨_, rfl, ?_⟩; replace HB := bS (kB HB) hb))
    go_ret
    exact ⟨tE, kB HB⟩
   rw [if_pos c16] at H
   have c16b0 : (t213 == 0) = true := beq_iff_eq.mpr c16
   have c16b1 : (t213 != 0) = false := bne_eq_false_iff_eq.mpr c16
   clear c16
   by_cases c17 : (wrap64 ((wrap64 (t208 + t210)) - t212)) ≤ 1
   ·rw [if_pos c17] at H
    have c17b0 : decide ((wrap64 ((wrap64 (t208 + t210)) - t212)) ≤ 1) = true := decide_eq_true c17
    clear c17
    obtain rfl := Option.some.inj H
    go_wp2_with (first | ((with_reducible refine gate_callee (f := 11) rfl ?_); refine gL (some 28) Try.func11 #[.int .i64 a0, .int .i64 a1, .int .i64 a3] (money_Times.calls a0 a1 a3 t208 t209 _ A10.out) ?_; rintro e w18 ⟨rfl, hb⟩; refine ⟨_, rfl, ?_⟩; replace HB := bS (kB HB) hb) | ((with_reducible refine gate_callee (f := 11) rfl ?_); refine gL (some 35) Try.func11 #[.int .i64 a0, .int .i64 a2, .int .i64 a3] (money_Times.calls a0 a2 a3 t210 t211 _ A11.out) ?_; rintro e w19 ⟨rfl, hb⟩; refine ⟨_, rfl, ?_⟩; replace HB := bS (kB HB) hb) | ((with_reducible refine gate_callee (f := 11) rfl ?_); refine gL (some 44) Try.func11 #[.int .i64 a0, .int .i64 (wrap64 (a1 + a2)), .int .i64 a3] (money_Times.calls a0 (wrap64 (a1 + a2)) a3 t212 t213 _ A12.out) ?_; rintro e w20 ⟨rfl, hb⟩; refine ⟨_, rfl, ?_⟩; replace HB := bS (kB HB) hb))
    go_ret
    exact ⟨tE, kB HB⟩
   rw [if_neg c17] at H
   have c17b0 : decide ((wrap64 ((wrap64 (t208 + t210)) - t212)) ≤ 1) = false := decide_eq_false c17
   clear c17
   obtain rfl := Option.some.inj H
   go_wp2_with (first | ((with_reducible refine gate_callee (f := 11) rfl ?_); refine gL (some 28) Try.func11 #[.int .i64 a0, .int .i64 a1, .int .i64 a3] (money_Times.calls a0 a1 a3 t208 t209 _ A10.out) ?_; rintro e w21 ⟨rfl, hb⟩; refine ⟨_, rfl, ?_⟩; replace HB := bS (kB HB) hb) | ((with_reducible refine gate_callee (f := 11) rfl ?_); refine gL (some 35) Try.func11 #[.int .i64 a0, .int .i64 a2, .int .i64 a3] (money_Times.calls a0 a2 a3 t210 t211 _ A11.out) ?_; rintro e w22 ⟨rfl, hb⟩; refine ⟨_, rfl, ?_⟩; replace HB := bS (kB HB) hb) | ((with_reducible refine gate_callee (f := 11) rfl ?_); refine gL (some 44) Try.func11 #[.int .i64 a0, .int .i64 (wrap64 (a1 + a2)), .int .i64 a3] (money_Times.calls a0 (wrap64 (a1 + a2)) a3 t212 t213 _ A12.out) ?_; rintro e w23 ⟨rfl, hb⟩; refine ⟨_, rfl, ?_⟩; replace HB := bS (kB HB) hb))
   go_ret
   exact ⟨tE, kB HB⟩
def w31_MoneyParts.Pure : Prop := ∀ (a0 : Int) (a1 : Int) (a2 : Int) (a3 : Int), ((Lit.int .i64 a0).wf = true) → ((Lit.int .i64 a1).wf = true) → ((Lit.int .i64 a2).wf = true) → ((Lit.int .i64 a3).wf = true) → ∃ k, w31_MoneyParts.f k a0 a1 a2 a3 = some true
theorem w31_MoneyParts.walk (P : w31_MoneyParts.Pure) (a0 : Int) (a1 : Int) (a2 : Int) (a3 : Int)  (w : World) (w0 : (Lit.int .i64 a0).wf = true) (w1 : (Lit.int .i64 a1).wf = true) (w2 : (Lit.int .i64 a2).wf = true) (w3 : (Lit.int .i64 a3).wf = true)  :
    Calls Try.prog 5 #[.int .i64 a0, .int .i64 a1, .int .i64 a2, .int .i64 a3] w fun e w' => e = .returned (.bool true) ∧ Below w.heap.size w w' := by
 obtain ⟨k, h⟩ := P a0 a1 a2 a3 w0 w1 w2 w3
 refine (w31_MoneyParts.calls k a0 a1 a2 a3 true w  h).mono ?_
 rintro e w' ⟨rfl, hd⟩
 exact ⟨rfl, hd⟩
end Go.Proofs.Ytilmdlaacpefiaa.Q
