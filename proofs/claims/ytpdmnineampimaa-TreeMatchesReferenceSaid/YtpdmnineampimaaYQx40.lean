import Derived.Test.YtpdmnineampimaaYe
import Derived.Test.YtpdmnineampimaaYQx33
set_option linter.unusedVariables false
set_option linter.unusedSimpArgs false
namespace Go.Proofs.Ytpdmnineampimaa.Q
open Go.RowKit Go.Proofs.YtpdmnineampimaaW.PrintWords Go.Proofs.YtpdmnineampimaaW.PrintLast Go.Proofs.YtpdmnineampimaaW.PrintMore
attribute [local go_sem] max2_int min2_int max_two min_two max_three min_three max_four min_four
def r04_Charger.f (a0_0 : ByteArray) (a0_1 : Int) (a0_2 : Int) (a0_3 : Int) (a0_4 : Int) (a0_5 : Int) (a0_6 : Int) (a0_7 : Int) : Option (Bool) := (r04_inside.f a0_2 1 7).bind fun t349 => (if t349 = true then ((r04_inside.f a0_3 1 80).bind fun t350 => (if t350 = true then ((r04_inside.f a0_4 a0_3 80).bind fun t351 => (if t351 = true then ((r04_inside.f a0_5 1 80).bind fun t352 => (if t352 = true then (if a0_6 = 0 then (some true) else ((r04_inside.f a0_6 a0_3 a0_4).bind fun t353 => (some t353))) else (some false))) else (some false))) else (some false))) else (some false))
set_option maxHeartbeats 8000000 in
set_option maxRecDepth 100000 in
theorem r04_Charger.calls (a0_0 : ByteArray) (a0_1 : Int) (a0_2 : Int) (a0_3 : Int) (a0_4 : Int) (a0_5 : Int) (a0_6 : Int) (a0_7 : Int) (r : Bool) (w : World) (h : r04_Charger.f a0_0 a0_1 a0_2 a0_3 a0_4 a0_5 a0_6 a0_7 = some r) :
    Calls Try.prog 49 #[.agg #[.string a0_0, .int .i64 a0_1, .int .i64 a0_2, .int .i64 a0_3, .int .i64 a0_4, .int .i64 a0_5, .int .i64 a0_6, .int .i64 a0_7]] w fun e w' => e = .returned (.bool r) ∧ Below w.heap.size w w' := by
 have hu42 := Try.underlying42
 have HB := Aside0.mk (Below.refl w.heap.size w)
 (try unfold r04_Charger.f at h)
 have H := h
 clear h
 obtain ⟨t349, A2, H⟩ := bnd H
 by_cases c3 : t349 = true
 rotate_left
 ·replace c3 := Bool.eq_false_iff.mpr c3
  subst c3
  replace H := ifF H
  obtain rfl := Option.some.inj H
  go_enter Try.func49, Try.ntmps49
  go_wp2_with (first | ((with_reducible refine gate_dst (N := 1) rfl ?_); refine bE 1 42 #[.string a0_0, .int .i64 a0_1, .int .i64 a0_2, .int .i64 a0_3, .int .i64 a0_4, .int .i64 a0_5, .int .i64 a0_6, .int .i64 a0_7] ?_; intro gb348 hg w22 hbox hb; have BK348 := Aside0.mk hbox; have GW348 := gE hg (kB HB); have GE348 := gE hg (kB HB); replace HB := bS (kB HB) hb; clear hb hbox hg; obtain ⟨⟨_,_,_,_,_,_,_,_⟩,_,_,_,_,_,_,_,_⟩ := bx8 BK348) | ((with_reducible refine gate_callee (f := 46) rfl ?_); refine gL (some 5) Try.func46 #[.int .i64 a0_2, .int .i64 1, .int .i64 7] (r04_inside.calls a0_2 1 7 false _ A2.out) ?_; rintro e w' ⟨rfl, ⟨nd, rfl⟩⟩; refine ⟨_, rfl, ?_⟩))
  go_ret
  exact ⟨tE, kB1 HB GE348⟩
 subst c3
 replace H := ifT H
 obtain ⟨t350, A4, H⟩ := bnd H
 by_cases c5 : t350 = true
 rotate_left
 ·replace c5 := Bool.eq_false_iff.mpr c5
  subst c5
  replace H := ifF H
  obtain rfl := Option.some.inj H
  go_enter Try.func49, Try.ntmps49
  go_wp2_with (first | ((with_reducible refine gate_dst (N := 1) rfl ?_); refine bE 1 42 #[.string a0_0, .int .i64 a0_1, .int .i64 a0_2, .int .i64 a0_3, .int .i64 a0_4, .int .i64 a0_5, .int .i64 a0_6, .int .i64 a0_7] ?_; intro gb348 hg w20 hbox hb; have BK348 := Aside0.mk hbox; have GW348 := gE hg (kB HB); have GE348 := gE hg (kB HB); replace HB := bS (kB HB) hb; clear hb hbox hg; obtain ⟨⟨_,_,_,_,_,_,_,_⟩,_,_,_,_,_,_,_,_⟩ := bx8 BK348) | ((with_reducible refine gate_callee (f := 46) rfl ?_); refine gL (some 5) Try.func46 #[.int .i64 a0_2, .int .i64 1, .int .i64 7] (r04_inside.calls a0_2 1 7 true _ A2.out) ?_; rintro e w' ⟨rfl, ⟨nd, rfl⟩⟩; refine ⟨_, rfl, ?_⟩) | (go_at_call 46; (with_reducible refine (r04_inside.calls a0_3 1 80 false _ A4.out).mono ?_); rintro e w' ⟨rfl, ⟨nd, rfl⟩⟩))
  go_ret
  exact ⟨tE, kB1 HB GE348⟩
 subst c5
 replace H := ifT H
 obtain ⟨t351, A6, H⟩ := bnd H
 by_cases c7 : t351 = true
 rotate_left
 ·replace c7 := Bool.eq_false_iff.mpr c7
  subst c7
  replace H := ifF H
  obtain rfl := Option.some.inj H
  go_enter Try.func49, Try.ntmps49
  go_wp2_with (first | ((with_reducible refine gate_dst (N := 1) rfl ?_); refine bE 1 42 #[.string a0_0, .int .i64 a0_1, .int .i64 a0_2, .int .i64 a0_3, .int .i64 a0_4, .int .i64 a0_5, .int .i64 a0_6, .int .i64 a0_7] ?_; intro gb348 hg w18 hbox hb; have BK348 := Aside0.mk hbox; have GW348 := gE hg (kB HB); have GE348 := gE hg (kB HB); replace HB := bS (kB HB) hb; clear hb hbox hg; obtain ⟨⟨_,_,_,_,_,_,_,_⟩,_,_,_,_,_,_,_,_⟩ := bx8 BK348) | ((with_reducible refine gate_callee (f := 46) rfl ?_); refine gL (some 5) Try.func46 #[.int .i64 a0_2, .int .i64 1, .int .i64 7] (r04_inside.calls a0_2 1 7 true _ A2.out) ?_; rintro e w' ⟨rfl, ⟨nd, rfl⟩⟩; refine ⟨_, rfl, ?_⟩) | (go_at_call 46; (with_reducible refine (r04_inside.calls a0_3 1 80 true _ A4.out).mono ?_); rintro e w' ⟨rfl, ⟨nd, rfl⟩⟩) | (go_at_call 46; (with_reducible refine (r04_inside.calls a0_4 a0_3 80 false _ A6.out).mono ?_); rintro e w' ⟨rfl, ⟨nd, rfl⟩⟩))
  go_ret
  exact ⟨tE, kB1 HB GE348⟩
 subst c7
 replace H := ifT H
 obtain ⟨t352, A8, H⟩ := bnd H
 by_cases c9 : t352 = true
 rotate_left
 ·replace c9 := Bool.eq_false_iff.mpr c9
  subst c9
  replace H := ifF H
  obtain rfl := Option.some.inj H
  go_enter Try.func49, Try.ntmps49
  go_wp2_with (first | ((with_reducible refine gate_dst (N := 1) rfl ?_); refine bE 1 42 #[.string a0_0, .int .i64 a0_1, .int .i64 a0_2, .int .i64 a0_3, .int .i64 a0_4, .int .i64 a0_5, .int .i64 a0_6, .int .i64 a0_7] ?_; intro gb348 hg w16 hbox hb; have BK348 := Aside0.mk hbox; have GW348 := gE hg (kB HB); have GE348 := gE hg (kB HB); replace HB := bS (kB HB) hb; clear hb hbox hg; obtain ⟨⟨_,_,_,_,_,_,_,_⟩,_,_,_,_,_,_,_,_⟩ := bx8 BK348) | ((with_reducible refine gate_callee (f := 46) rfl ?_); refine gL (some 5) Try.func46 #[.int .i64 a0_2, .int .i64 1, .int .i64 7] (r04_inside.calls a0_2 1 7 true _ A2.out) ?_; rintro e w' ⟨rfl, ⟨nd, rfl⟩⟩; refine ⟨_, rfl, ?_⟩) | (go_at_call 46; (with_reducible refine (r04_inside.calls a0_3 1 80 true _ A4.out).mono ?_); rintro e w' ⟨rfl, ⟨nd, rfl⟩⟩) | (go_at_call 46; (with_reducible refine (r04_inside.calls a0_4 a0_3 80 true _ A6.out).mono ?_); rintro e w' ⟨rfl, ⟨nd, rfl⟩⟩) | (go_at_call 46; (with_reducible refine (r04_inside.calls a0_5 1 80 false _ A8.out).mono ?_); rintro e w' ⟨rfl, ⟨nd, rfl⟩⟩))
  go_ret
  exact ⟨tE, kB1 HB GE348⟩
 subst c9
 replace H := ifT H
 by_cases c10 : a0_6 = 0
 ·rw [if_pos c10] at H
  have c10b0 : (a0_6 == 0) = true := beq_iff_eq.mpr c10
  have c10b1 : (a0_6 != 0) = false := bne_eq_false_iff_eq.mpr c10
  clear c10
  obtain rfl := Option.some.inj H
  go_enter Try.func49, Try.ntmps49
  go_wp2_with (first | ((with_reducible refine gate_dst (N := 1) rfl ?_); refine bE 1 42 #[.string a0_0, .int .i64 a0_1, .int .i64 a0_2, .int .i64 a0_3, .int .i64 a0_4, .int .i64 a0_5, .int .i64 a0_6, .int .i64 a0_7] ?_; intro gb348 hg w11 hbox hb; have BK348 := Aside0.mk hbox; have GW348 := gE hg (kB HB); have GE348 := gE hg (kB HB); replace HB := bS (kB HB) hb; clear hb hbox hg; obtain ⟨⟨_,_,_,_,_,_,_,_⟩,_,_,_,_,_,_,_,_⟩ := bx8 BK348) | ((with_reducible refine gate_callee (f := 46) rfl ?_); refine gL (some 5) Try.func46 #[.int .i64 a0_2, .int .i64 1, .int .i64 7] (r04_inside.calls a0_2 1 7 true _ A2.out) ?_; rintro e w' ⟨rfl, ⟨nd, rfl⟩⟩; refine ⟨_, rfl, ?_⟩) | (go_at_call 46; (with_reducible refine (r04_inside.calls a0_3 1 80 true _ A4.out).mono ?_); rintro e w' ⟨rfl, ⟨nd, rfl⟩⟩) | (go_at_call 46; (with_reducible refine (r04_inside.calls a0_4 a0_3 80 true _ A6.out).mono ?_); rintro e w' ⟨rfl, ⟨nd, rfl⟩⟩) | (go_at_call 46; (with_reducible refine (r04_inside.calls a0_5 1 80 true _ A8.out).mono ?_); rintro e w' ⟨rfl, ⟨nd, rfl⟩⟩))
  go_ret
  exact ⟨tE, kB1 HB GE348⟩
 rw [if_neg c10] at H
 have c10b0 : (a0_6 == 0) = false := beq_eq_false_iff_ne.mpr c10
 have c10b1 : (a0_6 != 0) = true := bne_iff_ne.mpr c10
 obtain ⟨t353, A13, H⟩ := bnd H
 obtain rfl := Option.some.inj H
 go_enter Try.func49, Try.ntmps49
 go_wp2_with (first | ((with_reducible refine gate_dst (N := 1) rfl ?_); refine bE 1 42 #[.string a0_0, .int .i64 a0_1, .int .i64 a0_2, .int .i64 a0_3, .int .i64 a0_4, .int .i64 a0_5, .int .i64 a0_6, .int .i64 a0_7] ?_; intro gb348 hg w14 hbox hb; have BK348 := Aside0.mk hbox; have GW348 := gE hg (kB HB); have GE348 := gE hg (kB HB); replace HB := bS (kB HB) hb; clear hb hbox hg; obtain ⟨⟨_,_,_,_,_,_,_,_⟩,_,_,_,_,_,_,_,_⟩ := bx8 BK348) | ((with_reducible refine gate_callee (f := 46) rfl ?_); refine gL (some 5) Try.func46 #[.int .i64 a0_2, .int .i64 1, .int .i64 7] (r04_inside.calls a0_2 1 7 true _ A2.out) ?_; rintro e w' ⟨rfl, ⟨nd, rfl⟩⟩; refine ⟨_, rfl, ?_⟩) | (go_at_call 46; (with_reducible refine (r04_inside.calls a0_3 1 80 true _ A4.out).mono ?_); rintro e w' ⟨rfl, ⟨nd, rfl⟩⟩) | (go_at_call 46; (with_reducible refine (r04_inside.calls a0_4 a0_3 80 true _ A6.out).mono ?_); rintro e w' ⟨rfl, ⟨nd, rfl⟩⟩) | (go_at_call 46; (with_reducible refine (r04_inside.calls a0_5 1 80 true _ A8.out).mono ?_); rintro e w' ⟨rfl, ⟨nd, rfl⟩⟩) | (go_at_call 46; (with_reducible refine (r04_inside.calls a0_6 a0_3 a0_4 t353 _ A13.out).mono ?_); rintro e w' ⟨rfl, ⟨nd, rfl⟩⟩))
 go_ret
 exact ⟨tE, kB1 HB GE348⟩
end Go.Proofs.Ytpdmnineampimaa.Q
