import Derived.Test.YtilmdlaacpefiaaZe
import Derived.Test.YtilmdlaacpefiaaZQx10
import Derived.Test.YtilmdlaacpefiaaZQx13
set_option linter.unusedVariables false
set_option linter.unusedSimpArgs false
set_option linter.unusedSectionVars false
namespace Go.Proofs.Ytilmdlaacpefiaa.Q
open Go.RowKit Go.Proofs.YtilmdlaacpefiaaW.PrintWords Go.Proofs.YtilmdlaacpefiaaW.PrintLast Go.Proofs.YtilmdlaacpefiaaW.PrintMore
attribute [local go_sem] max2_int min2_int max_two min_two max_three min_three max_four min_four
def w31_MoneyRounds.f (k : Nat) (a0 : Int) (a1 : Int) (a2 : Int) : Option (Bool) := (w31_head.f k).bind fun t200 => ((money_Times.f a0 a1 a2).bind fun bt201 => (if bt201.2 = 0 then ((money_Tax.f a0 a1).bind fun bt203 => ((money_Times.f a0 a1 10000).bind fun bt205 => (if t200 = true then (if (wrap64 (2 * (wrap64 ((wrap64 (bt201.1 * a2)) - (wrap64 (a0 * a1)))))) > (wrap64 (-a2)) then (if (wrap64 (2 * (wrap64 ((wrap64 (bt201.1 * a2)) - (wrap64 (a0 * a1)))))) ≤ a2 then (if a1 > 100000 then (some true) else (if bt203.1 = bt205.1 then (some (bt203.2 == bt205.2)) else (some false))) else (some false)) else (some false)) else (some false)))) else (if t200 = true then (some (bt201.1 == 0)) else (some false))))
theorem w31_MoneyRounds.mono : ∀ a0 a1 a2 k, LeO (w31_MoneyRounds.f k a0 a1 a2) (w31_MoneyRounds.f (k + 1) a0 a1 a2) := by
  intro a0 a1 a2 k
  unfold w31_MoneyRounds.f
  repeat' first | (with_reducible exact w31_head.mono _) | (with_reducible exact LeO.refl _) | (with_reducible exact LeO.none _) | (with_reducible refine LeO.ite ?_ ?_) | (with_reducible refine LeO.bind ?_ (fun _ => ?_))
set_option maxHeartbeats 8000000 in
set_option maxRecDepth 100000 in
theorem w31_MoneyRounds.calls (k : Nat) (a0 : Int) (a1 : Int) (a2 : Int) (r : Bool) (w : World) (h : w31_MoneyRounds.f k a0 a1 a2 = some r) :
    Calls Try.prog 4 #[.int .i64 a0, .int .i64 a1, .int .i64 a2] w fun e w' => e = .returned (.bool r) ∧ Below w.heap.size w w' := by
 have HB := Aside0.mk (Below.refl w.heap.size w)
 (try unfold w31_MoneyRounds.f at h)
 have H := h
 clear h
 obtain ⟨t200, A4, H⟩ := bnd H
 obtain ⟨⟨t201, t202⟩, A5, H⟩ := bnd H
 dsimp only at H
 by_cases c6 : t202 = 0
 rotate_left
 ·rw [if_neg c6] at H
  have c6b0 : (t202 == 0) = false := beq_eq_false_iff_ne.mpr c6
  have c6b1 : (t202 != 0) = true := bne_iff_ne.mpr c6
  by_cases c38 : t200 = true
  ·subst c38
   replace H := ifT H
   obtain rfl := Option.some.inj H
   go_enter Try.func4, Try.ntmps4
   go_wp2_with (first | ((with_reducible refine gate_callee (f := 10) rfl ?_); refine gL (some 15) Try.func10 #[] (w31_head.calls k  true _ A4.out) ?_; rintro e w39 ⟨rfl, hb⟩; refine ⟨_, rfl, ?_⟩; replace HB := bS (kB HB) hb) | ((with_reducible refine gate_callee (f := 11) rfl ?_); refine gL (some 20) Try.func11 #[.int .i64 a0, .int .i64 a1, .int .i64 a2] (money_Times.calls a0 a1 a2 t201 t202 _ A5.out) ?_; rintro e w40 ⟨rfl, hb⟩; refine ⟨_, rfl, ?_⟩; replace HB := bS (kB HB) hb))
   go_ret
   exact ⟨tE, kB HB⟩
  replace c38 := Bool.eq_false_iff.mpr c38
  subst c38
  replace H := ifF H
  obtain rfl := Option.some.inj H
  go_enter Try.func4, Try.ntmps4
  go_wp2_with (first | ((with_reducible refine gate_callee (f := 10) rfl ?_); refine gL (some 15) Try.func10 #[] (w31_head.calls k  false _ A4.out) ?_; rintro e w41 ⟨rfl, hb⟩; refine ⟨_, rfl, ?_⟩; replace HB := bS (kB HB) hb) | ((with_reducible refine gate_callee (f := 11) rfl ?_); refine gL (some 20) Try.func11 #[.int .i64 a0, .int .i64 a1, .int .i64 a2] (money_Times.calls a0 a1 a2 t201 t202 _ A5.out) ?_; rintro e w42 ⟨rfl, hb⟩; refine ⟨_, rfl, ?_⟩; replace HB := bS (kB HB) hb))
  go_ret
  exact ⟨tE, kB HB⟩
 rw [if_pos c6] at H
 have c6b0 : (t202 == 0) = true := beq_iff_eq.mpr c6
 have c6b1 : (t202 != 0) = false := bne_eq_false_iff_eq.mpr c6
 clear c6
 obtain ⟨⟨t203, t204⟩, A7, H⟩ := bnd H
 dsimp only at H
 obtain ⟨⟨t205, t206⟩, A8, H⟩ := bnd H
 dsimp only at H
 by_cases c9 : t200 = true
 rotate_left
 ·replace c9 := Bool.eq_false_iff.mpr c9
  subst c9
  replace H := ifF H
  obtain rfl := Option.some.inj H
  go_enter Try.func4, Try.ntmps4
  go_wp2_with (first | ((with_reducible refine gate_callee (f := 10) rfl ?_); refine gL (some 15) Try.func10 #[] (w31_head.calls k  false _ A4.out) ?_; rintro e w34 ⟨rfl, hb⟩; refine ⟨_, rfl, ?_⟩; replace HB := bS (kB HB) hb) | ((with_reducible refine gate_callee (f := 11) rfl ?_); refine gL (some 20) Try.func11 #[.int .i64 a0, .int .i64 a1, .int .i64 a2] (money_Times.calls a0 a1 a2 t201 t202 _ A5.out) ?_; rintro e w35 ⟨rfl, hb⟩; refine ⟨_, rfl, ?_⟩; replace HB := bS (kB HB) hb) | ((with_reducible refine gate_callee (f := 15) rfl ?_); refine gL (some 41) Try.func15 #[.int .i64 a0, .int .i64 a1] (money_Tax.calls a0 a1 t203 t204 _ A7.out) ?_; rintro e w36 ⟨rfl, hb⟩; refine ⟨_, rfl, ?_⟩; replace HB := bS (kB HB) hb) | ((with_reducible refine gate_callee (f := 11) rfl ?_); refine gL (some 47) Try.func11 #[.int .i64 a0, .int .i64 a1, .int .i64 10000] (money_Times.calls a0 a1 10000 t205 t206 _ A8.out) ?_; rintro e w37 ⟨rfl, hb⟩; refine ⟨_, rfl, ?_⟩; replace HB := bS (kB HB) hb))
  go_ret
  exact ⟨tE, kB HB⟩
 subst c9
 replace H := ifT H
 by_cases c10 : (wrap64 (2 * (wrap64 ((wrap64 (t201 * a2)) - (wrap64 (a0 * a1)))))) > (wrap64 (-a2))
 rotate_left
 ·rw [if_neg c10] at H
  have c10b0 : decide ((wrap64 (-a2)) < (wrap64 (2 * (wrap64 ((wrap64 (t201 * a2)) - (wrap64 (a0 * a1))))))) = false := decide_eq_false c10
  clear c10
  obtain rfl := Option.some.inj H
  go_enter Try.func4, Try.ntmps4
  go_wp2_with (first | ((with_reducible refine gate_callee (f := 10) rfl ?_); refine gL (some 15) Try.func10 #[] (w31_head.calls k  true _ A4.out) ?_; rintro e w30 ⟨rfl, hb⟩; refine ⟨_, rfl, ?_⟩; replace HB := bS (kB HB) hb) | ((with_reducible refine gate_callee (f := 11) rfl ?_); refine gL (some 20) Try.func11 #[.int .i64 a0, .int .i64 a1, .int .i64 a2] (money_Times.calls a0 a1 a2 t201 t202 _ A5.out) ?_; rintro e w31 ⟨rfl, hb⟩; refine ⟨_, rfl, ?_⟩; replace HB := bS (kB HB) hb) | ((with_reducible refine gate_callee (f := 15) rfl ?_); refine gL (some 41) Try.func15 #[.int .i64 a0, .int .i64 a1] (money_Tax.calls a0 a1 t203 t204 _ A7.out) ?_; rintro e w32 ⟨rfl, hb⟩; refine ⟨_, rfl, ?_⟩; replace HB := bS (kB HB) hb) | ((with_reducible refine gate_callee (f := 11) rfl ?_); refine gL (some 47) Try.func11 #[.int .i64 a0, .int .i64 a1, .int .i64 10000] (money_Times.calls a0 a1 10000 t205 t206 _ A8.out) ?_; rintro e w33 ⟨rfl, hb⟩; refine ⟨_, rfl, ?_⟩; replace HB := bS (kB HB) hb))
  go_ret
  exact ⟨tE, kB HB⟩
 rw [if_pos c10] at H
 have c10b0 : decide ((wrap64 (-a2)) < (wrap64 (2 * (wrap64 ((wrap64 (t201 * a2)) - (wrap64 (a0 * a1))))))) = true := decide_eq_true c10
 clear c10
 by_cases c11 : (wrap64 (2 * (wrap64 ((wrap64 (t201 * a2)) - (wrap64 (a0 * a1)))))) ≤ a2
 rotate_left
 ·rw [if_neg c11] at H
  have c11b0 : decide ((wrap64 (2 * (wrap64 ((wrap64 (t201 * a2)) - (wrap64 (a0 * a1)))))) ≤ a2) = false := decide_eq_false c11
  clear c11
  obtain rfl := Option.some.inj H
  go_enter Try.func4, Try.ntmps4
  go_wp2_with (first | ((with_reducible refine gate_callee (f := 10) rfl ?_); refine gL (some 15) Try.func10 #[] (w31_head.calls k  true _ A4.out) ?_; rintro e w26 ⟨rfl, hb⟩; refine ⟨_, rfl, ?_⟩; replace HB := bS (kB HB) hb) | ((with_reducible refine gate_callee (f := 11) rfl ?_); refine gL (some 20) Try.func11 #[.int .i64 a0, .int .i64 a1, .int .i64 a2] (money_Times.calls a0 a1 a2 t201 t202 _ A5.out) ?_; rintro e w27 ⟨rfl, hb⟩; refine ⟨_, rfl, ?_⟩; replace HB := bS (kB HB) hb) | ((with_reducible refine gate_callee (f := 15) rfl ?_); refine gL (some 41) Try.func15 #[.int .i64 a0, .int .i64 a1] (money_Tax.calls a0 a1 t203 t204 _ A7.out) ?_; rintro e w28 ⟨rfl, hb⟩; refine ⟨_, rfl, ?_⟩; replace HB := bS (kB HB) hb) | ((with_reducible refine gate_callee (f := 11) rfl ?_); refine gL (some 47) Try.func11 #[.int .i64 a0, .int .i64 a1, .int .i64 10000] (money_Times.calls a0 a1 10000 t205 t206 _ A8.out) ?_; rintro e w29 ⟨rfl, hb⟩; refine ⟨_, rfl, ?_⟩; replace HB := bS (kB HB) hb))
  go_ret
  exact ⟨tE, kB HB⟩
 rw [if_pos c11] at H
 have c11b0 : decide ((wrap64 (2 * (wrap64 ((wrap64 (t201 * a2)) - (wrap64 (a0 * a1)))))) ≤ a2) = true := decide_eq_true c11
 clear c11
 by_cases c12 : a1 > 100000
 ·rw [if_pos c12] at H
  have c12b0 : decide (100000 < a1) = true := decide_eq_true c12
  clear c12
  obtain rfl := Option.some.inj H
  go_enter Try.func4, Try.ntmps4
  go_wp2_with (first | ((with_reducible refine gate_callee (f := 10) rfl ?_); refine gL (some 15) Try.func10 #[] (w31_head.calls k  true _ A4.out) ?_; rintro e w13 ⟨rfl, hb⟩; refine ⟨_, rfl, ?_⟩; replace HB := bS (kB HB) hb) | ((with_reducible refine gate_callee (f := 11) rfl ?_); refine gL (some 20) Try.func11 #[.int .i64 a0, .int .i64 a1, .int .i64 a2] (money_Times.calls a0 a1 a2 t201 t202 _ A5.out) ?_; rintro e w14 ⟨rfl, hb⟩; refine ⟨_, rfl, ?_⟩; replace HB := bS (kB HB) hb) | ((with_reducible refine gate_callee (f := 15) rfl ?_); refine gL (some 41) Try.func15 #[.int .i64 a0, .int .i64 a1] (money_Tax.calls a0 a1 t203 t204 _ A7.out) ?_; rintro e w15 ⟨rfl, hb⟩; refine ⟨_, rfl, ?_⟩; replace HB := bS (kB HB) hb) | ((with_reducible refine gate_callee (f := 11) rfl ?_); refine gL (some 47) Try.func11 #[.int .i64 a0, .int .i64 a1, .int .i64 10000] (money_Times.calls a0 a1 10000 t205 t206 _ A8.out) ?_; rintro e w16 ⟨rfl, hb⟩; refine ⟨_, rfl, ?_⟩; replace HB := bS (kB HB) hb))
  go_ret
  exact ⟨tE, kB HB⟩
 rw [if_neg c12] at H
 have c12b0 : decide (100000 < a1) = false := decide_eq_false c12
 clear c12
 by_cases c17 : t203 = t205
 ·rw [if_pos c17] at H
  have c17b0 : (t203 == t205) = true := beq_iff_eq.mpr c17
  have c17b1 : (t203 != t205) = false := bne_eq_false_iff_eq.mpr c17
  clear c17
  obtain rfl := Option.some.inj H
  go_enter Try.func4, Try.ntmps4
  go_wp2_with (first | ((with_reducible refine gate_callee (f := 10) rfl ?_); refine gL (some 15) Try.func10 #[] (w31_head.calls k  true _ A4.out) ?_; rintro e w18 ⟨rfl, hb⟩; refine ⟨_, rfl, ?_⟩; replace HB := bS (kB HB) hb) | ((with_reducible refine gate_callee (f := 11) rfl ?_); refine gL (some 20) Try.func11 #[.int .i64 a0, .int .i64 a1, .int .i64 a2] (money_Times.calls a0 a1 a2 t201 t202 _ A5.out) ?_; rintro e w19 ⟨rfl, hb⟩; refine ⟨_, rfl, ?_⟩; replace HB := bS (kB HB) hb) | ((with_reducible refine gate_callee (f := 15) rfl ?_); refine gL (some 41) Try.func15 #[.int .i64 a0, .int .i64 a1] (money_Tax.calls a0 a1 t203 t204 _ A7.out) ?_; rintro e w20 ⟨rfl, hb⟩; refine ⟨_, rfl, ?_⟩; replace HB := bS (kB HB) hb) | ((with_reducible refine gate_callee (f := 11) rfl ?_); refine gL (some 47) Try.func11 #[.int .i64 a0, .int .i64 a1, .int .i64 10000] (money_Times.calls a0 a1 10000 t205 t206 _ A8.out) ?_; rintro e w21 ⟨rfl, hb⟩; refine ⟨_, rfl, ?_⟩; replace HB := bS (kB HB) hb))
  go_ret
  exact ⟨tE, kB HB⟩
 rw [if_neg c17] at H
 have c17b0 : (t203 == t205) = false := beq_eq_false_iff_ne.mpr c17
 have c17b1 : (t203 != t205) = true := bne_iff_ne.mpr c17
 obtain rfl := Option.some.inj H
 go_enter Try.func4, Try.ntmps4
 go_wp2_with (first | ((with_reducible refine gate_callee (f := 10) rfl ?_); refine gL (some 15) Try.func10 #[] (w31_head.calls k  true _ A4.out) ?_; rintro e w22 ⟨rfl, hb⟩; refine ⟨_, rfl, ?_⟩; replace HB := bS (kB HB) hb) | ((with_reducible refine gate_callee (f := 11) rfl ?_); refine gL (some 20) Try.func11 #[.int .i64 a0, .int .i64 a1, .int .i64 a2] (money_Times.calls a0 a1 a2 t201 t202 _ A5.out) ?_; rintro e w23 ⟨rfl, hb⟩; refine ⟨_, rfl, ?_⟩; replace HB := bS (kB HB) hb) | ((with_reducible refine gate_callee (f := 15) rfl ?_); refine gL (some 41) Try.func15 #[.int .i64 a0, .int .i64 a1] (money_Tax.calls a0 a1 t203 t204 _ A7.out) ?_; rintro e w24 ⟨rfl, hb⟩; refine ⟨_, rfl, ?_⟩; replace HB := bS (kB HB) hb) | ((with_reducible refine gate_callee (f := 11) rfl ?_); refine gL (some 47) Try.func11 #[.int .i64 a0, .int .i64 a1, .int .i64 10000] (money_Times.calls a0 a1 10000 t205 t206 _ A8.out) ?_; rintro e w25 ⟨rfl, hb⟩; refine ⟨_, rfl, ?_⟩; replace HB := bS (kB HB) hb))
 go_ret
 exact ⟨tE, kB HB⟩
def w31_MoneyRounds.Pure : Prop := ∀ (a0 : Int) (a1 : Int) (a2 : Int), ((Lit.int .i64 a0).wf = true) → ((Lit.int .i64 a1).wf = true) → ((Lit.int .i64 a2).wf = true) → ∃ k, w31_MoneyRounds.f k a0 a1 a2 = some true
theorem w31_MoneyRounds.walk (P : w31_MoneyRounds.Pure) (a0 : Int) (a1 : Int) (a2 : Int)  (w : World) (w0 : (Lit.int .i64 a0).wf = true) (w1 : (Lit.int .i64 a1).wf = true) (w2 : (Lit.int .i64 a2).wf = true)  :
    Calls Try.prog 4 #[.int .i64 a0, .int .i64 a1, .int .i64 a2] w fun e w' => e = .returned (.bool true) ∧ Below w.heap.size w w' := by
 obtain ⟨k, h⟩ := P a0 a1 a2 w0 w1 w2
 refine (w31_MoneyRounds.calls k a0 a1 a2 true w  h).mono ?_
 rintro e w' ⟨rfl, hd⟩
 exact ⟨rfl, hd⟩
end Go.Proofs.Ytilmdlaacpefiaa.Q
