import Derived.Test.YtpdmnineampimaaYe
set_option linter.unusedVariables false
set_option linter.unusedSimpArgs false
namespace Go.Proofs.Ytpdmnineampimaa.Q
open Go.RowKit Go.Proofs.YtpdmnineampimaaW.PrintWords Go.Proofs.YtpdmnineampimaaW.PrintLast Go.Proofs.YtpdmnineampimaaW.PrintMore
attribute [local go_sem] max2_int min2_int max_two min_two max_three min_three max_four min_four
def r08_Uses.f (a0_0 : ByteArray) (a0_1 : Int) (a0_2 : Int) (a0_3 : Int) (a0_4 : Int) (a0_5 : Int) (a0_6 : Int) (a0_7 : Int) (a1 : Int) : Option (Bool) := if a1 = 0 then (some ((Int.tmod a0_2 2) == 1)) else (if a1 = 1 then (some ((Int.tmod (wrap64 (Int.tdiv a0_2 2)) 2) == 1)) else (some ((Int.tmod (wrap64 (Int.tdiv a0_2 4)) 2) == 1)))
set_option maxHeartbeats 8000000 in
set_option maxRecDepth 100000 in
theorem r08_Uses.calls (a0_0 : ByteArray) (a0_1 : Int) (a0_2 : Int) (a0_3 : Int) (a0_4 : Int) (a0_5 : Int) (a0_6 : Int) (a0_7 : Int) (a1 : Int) (r : Bool) (w : World) (h : r08_Uses.f a0_0 a0_1 a0_2 a0_3 a0_4 a0_5 a0_6 a0_7 a1 = some r) :
    Calls Try.prog 34 #[.agg #[.string a0_0, .int .i64 a0_1, .int .i64 a0_2, .int .i64 a0_3, .int .i64 a0_4, .int .i64 a0_5, .int .i64 a0_6, .int .i64 a0_7], .int .i64 a1] w fun e w' => e = .returned (.bool r) ∧ Below w.heap.size w w' := by
 have hu42 := Try.underlying42
 have HB := Aside0.mk (Below.refl w.heap.size w)
 (try unfold r08_Uses.f at h)
 have H := h
 clear h
 by_cases c3 : a1 = 0
 ·rw [if_pos c3] at H
  have c3b0 : (a1 == 0) = true := beq_iff_eq.mpr c3
  have c3b1 : (a1 != 0) = false := bne_eq_false_iff_eq.mpr c3
  clear c3
  obtain rfl := Option.some.inj H
  go_enter Try.func34, Try.ntmps34
  go_wp2_with (first | ((with_reducible refine gate_dst (N := 2) rfl ?_); refine bE 2 42 #[.string a0_0, .int .i64 a0_1, .int .i64 a0_2, .int .i64 a0_3, .int .i64 a0_4, .int .i64 a0_5, .int .i64 a0_6, .int .i64 a0_7] ?_; intro gb382 hg w4 hbox hb; have BK382 := Aside0.mk hbox; have GW382 := gE hg (kB HB); have GE382 := gE hg (kB HB); replace HB := bS (kB HB) hb; clear hb hbox hg; obtain ⟨⟨_,_,_,_,_,_,_,_⟩,_,_,_,_,_,_,_,_⟩ := bx8 BK382))
  go_ret
  exact ⟨tE, kB1 HB GE382⟩
 rw [if_neg c3] at H
 have c3b0 : (a1 == 0) = false := beq_eq_false_iff_ne.mpr c3
 have c3b1 : (a1 != 0) = true := bne_iff_ne.mpr c3
 by_cases c6 : a1 = 1
 ·rw [if_pos c6] at H
  have c6b0 : (a1 == 1) = true := beq_iff_eq.mpr c6
  have c6b1 : (a1 != 1) = false := bne_eq_false_iff_eq.mpr c6
  clear c6
  obtain rfl := Option.some.inj H
  go_enter Try.func34, Try.ntmps34
  go_wp2_with (first | ((with_reducible refine gate_dst (N := 2) rfl ?_); refine bE 2 42 #[.string a0_0, .int .i64 a0_1, .int .i64 a0_2, .int .i64 a0_3, .int .i64 a0_4, .int .i64 a0_5, .int .i64 a0_6, .int .i64 a0_7] ?_; intro gb382 hg w7 hbox hb; have BK382 := Aside0.mk hbox; have GW382 := gE hg (kB HB); have GE382 := gE hg (kB HB); replace HB := bS (kB HB) hb; clear hb hbox hg; obtain ⟨⟨_,_,_,_,_,_,_,_⟩,_,_,_,_,_,_,_,_⟩ := bx8 BK382))
  go_ret
  exact ⟨tE, kB1 HB GE382⟩
 rw [if_neg c6] at H
 have c6b0 : (a1 == 1) = false := beq_eq_false_iff_ne.mpr c6
 have c6b1 : (a1 != 1) = true := bne_iff_ne.mpr c6
 obtain rfl := Option.some.inj H
 go_enter Try.func34, Try.ntmps34
 go_wp2_with (first | ((with_reducible refine gate_dst (N := 2) rfl ?_); refine bE 2 42 #[.string a0_0, .int .i64 a0_1, .int .i64 a0_2, .int .i64 a0_3, .int .i64 a0_4, .int .i64 a0_5, .int .i64 a0_6, .int .i64 a0_7] ?_; intro gb382 hg w9 hbox hb; have BK382 := Aside0.mk hbox; have GW382 := gE hg (kB HB); have GE382 := gE hg (kB HB); replace HB := bS (kB HB) hb; clear hb hbox hg; obtain ⟨⟨_,_,_,_,_,_,_,_⟩,_,_,_,_,_,_,_,_⟩ := bx8 BK382))
 go_ret
 exact ⟨tE, kB1 HB GE382⟩
end Go.Proofs.Ytpdmnineampimaa.Q
