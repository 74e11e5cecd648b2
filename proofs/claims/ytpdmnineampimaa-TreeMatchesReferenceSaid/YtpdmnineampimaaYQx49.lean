import Derived.Test.YtpdmnineampimaaYe
import Derived.Test.YtpdmnineampimaaYQx33
import Derived.Test.YtpdmnineampimaaYQx41
set_option linter.unusedVariables false
set_option linter.unusedSimpArgs false
namespace Go.Proofs.Ytpdmnineampimaa.Q
open Go.RowKit Go.Proofs.YtpdmnineampimaaW.PrintWords Go.Proofs.YtpdmnineampimaaW.PrintLast Go.Proofs.YtpdmnineampimaaW.PrintMore
attribute [local go_sem] max2_int min2_int max_two min_two max_three min_three max_four min_four
def w08_usable.f (k : Nat) (l0_0 : List (S48)) (l0_1 : List (S62)) (l0_2 : List (S84)) (l0_3 : List (S42)) (l0_4 : List (S87)) : Option (Bool) := (r04_Few.f l0_0 l0_1 l0_2 l0_3 l0_4).bind fun t440 => (if t440 = true then ((r04_Valid.f k l0_0 l0_1 l0_2 l0_3 l0_4).bind fun t441 => (some t441)) else (some false))
theorem w08_usable.mono : ∀ a0 a1 a2 a3 a4 k, LeO (w08_usable.f k a0 a1 a2 a3 a4) (w08_usable.f (k + 1) a0 a1 a2 a3 a4) := by
  intro a0 a1 a2 a3 a4 k
  unfold w08_usable.f
  repeat' first | (with_reducible exact r04_Valid.mono _ _ _ _ _ _) | (with_reducible exact LeO.refl _) | (with_reducible exact LeO.none _) | (with_reducible refine LeO.ite ?_ ?_) | (with_reducible refine LeO.bind ?_ (fun _ => ?_))
set_option maxHeartbeats 8000000 in
set_option maxRecDepth 100000 in
theorem w08_usable.calls (k : Nat) (A0_0 : Option Addr) (c0_0 : Nat) (l0_0 : List (S48)) (A0_1 : Option Addr) (c0_1 : Nat) (l0_1 : List (S62)) (A0_2 : Option Addr) (c0_2 : Nat) (l0_2 : List (S84)) (A0_3 : Option Addr) (c0_3 : Nat) (l0_3 : List (S42)) (A0_4 : Option Addr) (c0_4 : Nat) (l0_4 : List (S87)) (r : Bool) (w : World) (hr0_0 : Kd.C k48 w A0_0 l0_0.length l0_0) (hc0_0 : l0_0.length ≤ c0_0) (hr0_1 : Kd.C k62 w A0_1 l0_1.length l0_1) (hc0_1 : l0_1.length ≤ c0_1) (hr0_2 : Kd.C k84 w A0_2 l0_2.length l0_2) (hc0_2 : l0_2.length ≤ c0_2) (hr0_3 : Kd.C k42 w A0_3 l0_3.length l0_3) (hc0_3 : l0_3.length ≤ c0_3) (hr0_4 : Kd.C k87 w A0_4 l0_4.length l0_4) (hc0_4 : l0_4.length ≤ c0_4) (h : w08_usable.f k l0_0 l0_1 l0_2 l0_3 l0_4 = some r) :
    Calls Try.prog 20 #[.agg #[.slice A0_0 l0_0.length c0_0, .slice A0_1 l0_1.length c0_1, .slice A0_2 l0_2.length c0_2, .slice A0_3 l0_3.length c0_3, .slice A0_4 l0_4.length c0_4]] w fun e w' => e = .returned (.bool r) ∧ Below w.heap.size w w' := by
 have hu28 := Try.underlying28
 have HR0_0 := Aside0.mk hr0_0
 have HC0_0 := Aside0.mk hc0_0
 clear hr0_0 hc0_0
 have HR0_1 := Aside0.mk hr0_1
 have HC0_1 := Aside0.mk hc0_1
 clear hr0_1 hc0_1
 have HR0_2 := Aside0.mk hr0_2
 have HC0_2 := Aside0.mk hc0_2
 clear hr0_2 hc0_2
 have HR0_3 := Aside0.mk hr0_3
 have HC0_3 := Aside0.mk hc0_3
 clear hr0_3 hc0_3
 have HR0_4 := Aside0.mk hr0_4
 have HC0_4 := Aside0.mk hc0_4
 clear hr0_4 hc0_4
 have HB := Aside0.mk (Below.refl w.heap.size w)
 (try unfold w08_usable.f at h)
 have H := h
 clear h
 obtain ⟨t440, A2, H⟩ := bnd H
 by_cases c3 : t440 = true
 rotate_left
 ·replace c3 := Bool.eq_false_iff.mpr c3
  subst c3
  replace H := ifF H
  obtain rfl := Option.some.inj H
  go_enter Try.func20, Try.ntmps20
  go_wp2_with (first | ((with_reducible refine gate_dst (N := 1) rfl ?_); refine bE 1 28 #[.slice A0_0 l0_0.length c0_0, .slice A0_1 l0_1.length c0_1, .slice A0_2 l0_2.length c0_2, .slice A0_3 l0_3.length c0_3, .slice A0_4 l0_4.length c0_4] ?_; intro gb439 hg w10 hbox hb; have BK439 := Aside0.mk hbox; have GW439 := gE hg (kB HB); have GE439 := gE hg (kB HB); replace HB := bS (kB HB) hb; clear hb hbox hg; obtain ⟨⟨_,_,_,_,_⟩,_,_,_,_,_⟩ := bx5 BK439) | ((with_reducible refine gate_callee (f := 11) rfl ?_); refine gL (some 4) Try.func11 #[.agg #[.slice A0_0 l0_0.length c0_0, .slice A0_1 l0_1.length c0_1, .slice A0_2 l0_2.length c0_2, .slice A0_3 l0_3.length c0_3, .slice A0_4 l0_4.length c0_4]] (r04_Few.calls _ _ l0_0 _ _ l0_1 _ _ l0_2 _ _ l0_3 _ _ l0_4 false _ (sC HR0_0 HB) HC0_0.out (sC HR0_1 HB) HC0_1.out (sC HR0_2 HB) HC0_2.out (sC HR0_3 HB) HC0_3.out (sC HR0_4 HB) HC0_4.out A2.out) ?_; rintro e w12 ⟨rfl, hb⟩; refine ⟨_, rfl, ?_⟩; replace BK439 := bK BK439 hb; replace HB := bS (kB1 HB GE439) hb))
  go_ret
  exact ⟨tE, kB1 HB GE439⟩
 subst c3
 replace H := ifT H
 obtain ⟨t441, A4, H⟩ := bnd H
 obtain rfl := Option.some.inj H
 go_enter Try.func20, Try.ntmps20
 go_wp2_with (first | ((with_reducible refine gate_dst (N := 1) rfl ?_); refine bE 1 28 #[.slice A0_0 l0_0.length c0_0, .slice A0_1 l0_1.length c0_1, .slice A0_2 l0_2.length c0_2, .slice A0_3 l0_3.length c0_3, .slice A0_4 l0_4.length c0_4] ?_; intro gb439 hg w5 hbox hb; have BK439 := Aside0.mk hbox; have GW439 := gE hg (kB HB); have GE439 := gE hg (kB HB); replace HB := bS (kB HB) hb; clear hb hbox hg; obtain ⟨⟨_,_,_,_,_⟩,_,_,_,_,_⟩ := bx5 BK439) | ((with_reducible refine gate_callee (f := 11) rfl ?_); refine gL (some 4) Try.func11 #[.agg #[.slice A0_0 l0_0.length c0_0, .slice A0_1 l0_1.length c0_1, .slice A0_2 l0_2.length c0_2, .slice A0_3 l0_3.length c0_3, .slice A0_4 l0_4.length c0_4]] (r04_Few.calls _ _ l0_0 _ _ l0_1 _ _ l0_2 _ _ l0_3 _ _ l0_4 true _ (sC HR0_0 HB) HC0_0.out (sC HR0_1 HB) HC0_1.out (sC HR0_2 HB) HC0_2.out (sC HR0_3 HB) HC0_3.out (sC HR0_4 HB) HC0_4.out A2.out) ?_; rintro e w7 ⟨rfl, hb⟩; refine ⟨_, rfl, ?_⟩; replace BK439 := bK BK439 hb; replace HB := bS (kB1 HB GE439) hb; obtain ⟨⟨_,_,_,_,_⟩,_,_,_,_,_⟩ := bx5 BK439) | (go_at_call 30; (with_reducible refine (r04_Valid.calls k _ _ l0_0 _ _ l0_1 _ _ l0_2 _ _ l0_3 _ _ l0_4 t441 _ (sC HR0_0 HB) HC0_0.out (sC HR0_1 HB) HC0_1.out (sC HR0_2 HB) HC0_2.out (sC HR0_3 HB) HC0_3.out (sC HR0_4 HB) HC0_4.out A4.out).mono ?_); rintro e w9 ⟨rfl, hb⟩; replace BK439 := bK BK439 hb; replace HB := bS (kB1 HB GE439) hb))
 go_ret
 exact ⟨tE, kB1 HB GE439⟩
end Go.Proofs.Ytpdmnineampimaa.Q
