import Derived.Test.YtpdmnineampimaaYe
set_option linter.unusedVariables false
set_option linter.unusedSimpArgs false
namespace Go.Proofs.Ytpdmnineampimaa.Q
open Go.RowKit Go.Proofs.YtpdmnineampimaaW.PrintWords Go.Proofs.YtpdmnineampimaaW.PrintLast Go.Proofs.YtpdmnineampimaaW.PrintMore
attribute [local go_sem] max2_int min2_int max_two min_two max_three min_three max_four min_four
def r04_Few.f (l0_0 : List (S48)) (l0_1 : List (S62)) (l0_2 : List (S84)) (l0_3 : List (S42)) (l0_4 : List (S87)) : Option (Bool) := if (l0_0.length : Int) ≤ 40 then (if (l0_1.length : Int) ≤ 40 then (if (l0_2.length : Int) ≤ 40 then (if (l0_3.length : Int) ≤ 40 then (some (decide ((l0_4.length : Int) ≤ 40))) else (some false)) else (some false)) else (some false)) else (some false)
set_option maxHeartbeats 8000000 in
set_option maxRecDepth 100000 in
theorem r04_Few.calls (A0_0 : Option Addr) (c0_0 : Nat) (l0_0 : List (S48)) (A0_1 : Option Addr) (c0_1 : Nat) (l0_1 : List (S62)) (A0_2 : Option Addr) (c0_2 : Nat) (l0_2 : List (S84)) (A0_3 : Option Addr) (c0_3 : Nat) (l0_3 : List (S42)) (A0_4 : Option Addr) (c0_4 : Nat) (l0_4 : List (S87)) (r : Bool) (w : World) (hr0_0 : Kd.C k48 w A0_0 l0_0.length l0_0) (hc0_0 : l0_0.length ≤ c0_0) (hr0_1 : Kd.C k62 w A0_1 l0_1.length l0_1) (hc0_1 : l0_1.length ≤ c0_1) (hr0_2 : Kd.C k84 w A0_2 l0_2.length l0_2) (hc0_2 : l0_2.length ≤ c0_2) (hr0_3 : Kd.C k42 w A0_3 l0_3.length l0_3) (hc0_3 : l0_3.length ≤ c0_3) (hr0_4 : Kd.C k87 w A0_4 l0_4.length l0_4) (hc0_4 : l0_4.length ≤ c0_4) (h : r04_Few.f l0_0 l0_1 l0_2 l0_3 l0_4 = some r) :
    Calls Try.prog 11 #[.agg #[.slice A0_0 l0_0.length c0_0, .slice A0_1 l0_1.length c0_1, .slice A0_2 l0_2.length c0_2, .slice A0_3 l0_3.length c0_3, .slice A0_4 l0_4.length c0_4]] w fun e w' => e = .returned (.bool r) ∧ Below w.heap.size w w' := by
 have hu28 := Try.underlying28
 have HR0_0 := Aside0.mk hr0_0
 have HC0_0 := Aside0.mk hc0_0
 clear hr0_0 hc0_0
 have HR0_1 := Aside0.mk hr0_1
 have HC0_1 := Aside0.mk hc0_1
 clear hr0_1 hc0_1
 have HR0_2 := Aside0.mk hr0_2
 have HC0_2 := Aside0.mk hc0_2
 clear hr0_2 hc0_2
 have HR0_3 := Aside0.mk hr0_3
 have HC0_3 := Aside0.mk hc0_3
 clear hr0_3 hc0_3
 have HR0_4 := Aside0.mk hr0_4
 have HC0_4 := Aside0.mk hc0_4
 clear hr0_4 hc0_4
 have HB := Aside0.mk (Below.refl w.heap.size w)
 (try unfold r04_Few.f at h)
 have H := h
 clear h
 by_cases c2 : (l0_0.length : Int) ≤ 40
 rotate_left
 ·rw [if_neg c2] at H
  have c2b0 : decide ((l0_0.length : Int) ≤ 40) = false := decide_eq_false c2
  have c2b1 : decide (l0_0.length ≤ 40) = false := decide_eq_false (by omega)
  clear c2
  obtain rfl := Option.some.inj H
  go_enter Try.func11, Try.ntmps11
  go_wp2_with (first | ((with_reducible refine gate_dst (N := 1) rfl ?_); (try (refine gate_guard (by rfl) ?_; dsimp only)); refine bE 1 28 #[.slice A0_0 l0_0.length c0_0, .slice A0_1 l0_1.length c0_1, .slice A0_2 l0_2.length c0_2, .slice A0_3 l0_3.length c0_3, .slice A0_4 l0_4.length c0_4] ?_; intro gb274 hg w14 hbox hb; have BK274 := Aside0.mk hbox; have GW274 := gE hg (kB HB); have GE274 := gE hg (kB HB); replace HB := bS (kB HB) hb; clear hb hbox hg; obtain ⟨⟨_,_,_,_,_⟩,_,_,_,_,_⟩ := bx5 BK274))
  go_ret
  exact ⟨tE, kB1 HB GE274⟩
 rw [if_pos c2] at H
 have c2b0 : decide ((l0_0.length : Int) ≤ 40) = true := decide_eq_true c2
 have c2b1 : decide (l0_0.length ≤ 40) = true := decide_eq_true (by omega)
 clear c2
 by_cases c3 : (l0_1.length : Int) ≤ 40
 rotate_left
 ·rw [if_neg c3] at H
  have c3b0 : decide ((l0_1.length : Int) ≤ 40) = false := decide_eq_false c3
  have c3b1 : decide (l0_1.length ≤ 40) = false := decide_eq_false (by omega)
  clear c3
  obtain rfl := Option.some.inj H
  go_enter Try.func11, Try.ntmps11
  go_wp2_with (first | ((with_reducible refine gate_dst (N := 1) rfl ?_); (try (refine gate_guard (by rfl) ?_; dsimp only)); refine bE 1 28 #[.slice A0_0 l0_0.length c0_0, .slice A0_1 l0_1.length c0_1, .slice A0_2 l0_2.length c0_2, .slice A0_3 l0_3.length c0_3, .slice A0_4 l0_4.length c0_4] ?_; intro gb274 hg w12 hbox hb; have BK274 := Aside0.mk hbox; have GW274 := gE hg (kB HB); have GE274 := gE hg (kB HB); replace HB := bS (kB HB) hb; clear hb hbox hg; obtain ⟨⟨_,_,_,_,_⟩,_,_,_,_,_⟩ := bx5 BK274))
  go_ret
  exact ⟨tE, kB1 HB GE274⟩
 rw [if_pos c3] at H
 have c3b0 : decide ((l0_1.length : Int) ≤ 40) = true := decide_eq_true c3
 have c3b1 : decide (l0_1.length ≤ 40) = true := decide_eq_true (by omega)
 clear c3
 by_cases c4 : (l0_2.length : Int) ≤ 40
 rotate_left
 ·rw [if_neg c4] at H
  have c4b0 : decide ((l0_2.length : Int) ≤ 40) = false := decide_eq_false c4
  have c4b1 : decide (l0_2.length ≤ 40) = false := decide_eq_false (by omega)
  clear c4
  obtain rfl := Option.some.inj H
  go_enter Try.func11, Try.ntmps11
  go_wp2_with (first | ((with_reducible refine gate_dst (N := 1) rfl ?_); (try (refine gate_guard (by rfl) ?_; dsimp only)); refine bE 1 28 #[.slice A0_0 l0_0.length c0_0, .slice A0_1 l0_1.length c0_1, .slice A0_2 l0_2.length c0_2, .slice A0_3 l0_3.length c0_3, .slice A0_4 l0_4.length c0_4] ?_; intro gb274 hg w10 hbox hb; have BK274 := Aside0.mk hbox; have GW274 := gE hg (kB HB); have GE274 := gE hg (kB HB); replace HB := bS (kB HB) hb; clear hb hbox hg; obtain ⟨⟨_,_,_,_,_⟩,_,_,_,_,_⟩ := bx5 BK274))
  go_ret
  exact ⟨tE, kB1 HB GE274⟩
 rw [if_pos c4] at H
 have c4b0 : decide ((l0_2.length : Int) ≤ 40) = true := decide_eq_true c4
 have c4b1 : decide (l0_2.length ≤ 40) = true := decide_eq_true (by omega)
 clear c4
 by_cases c5 : (l0_3.length : Int) ≤ 40
 ·rw [if_pos c5] at H
  have c5b0 : decide ((l0_3.length : Int) ≤ 40) = true := decide_eq_true c5
  have c5b1 : decide (l0_3.length ≤ 40) = true := decide_eq_true (by omega)
  clear c5
  obtain rfl := Option.some.inj H
  go_enter Try.func11, Try.ntmps11
  go_wp2_with (first | ((with_reducible refine gate_dst (N := 1) rfl ?_); (try (refine gate_guard (by rfl) ?_; dsimp only)); refine bE 1 28 #[.slice A0_0 l0_0.length c0_0, .slice A0_1 l0_1.length c0_1, .slice A0_2 l0_2.length c0_2, .slice A0_3 l0_3.length c0_3, .slice A0_4 l0_4.length c0_4] ?_; intro gb274 hg w6 hbox hb; have BK274 := Aside0.mk hbox; have GW274 := gE hg (kB HB); have GE274 := gE hg (kB HB); replace HB := bS (kB HB) hb; clear hb hbox hg; obtain ⟨⟨_,_,_,_,_⟩,_,_,_,_,_⟩ := bx5 BK274))
  go_ret
  exact ⟨tE, kB1 HB GE274⟩
 rw [if_neg c5] at H
 have c5b0 : decide ((l0_3.length : Int) ≤ 40) = false := decide_eq_false c5
 have c5b1 : decide (l0_3.length ≤ 40) = false := decide_eq_false (by omega)
 clear c5
 obtain rfl := Option.some.inj H
 go_enter Try.func11, Try.ntmps11
 go_wp2_with (first | ((with_reducible refine gate_dst (N := 1) rfl ?_); (try (refine gate_guard (by rfl) ?_; dsimp only)); refine bE 1 28 #[.slice A0_0 l0_0.length c0_0, .slice A0_1 l0_1.length c0_1, .slice A0_2 l0_2.length c0_2, .slice A0_3 l0_3.length c0_3, .slice A0_4 l0_4.length c0_4] ?_; intro gb274 hg w8 hbox hb; have BK274 := Aside0.mk hbox; have GW274 := gE hg (kB HB); have GE274 := gE hg (kB HB); replace HB := bS (kB HB) hb; clear hb hbox hg; obtain ⟨⟨_,_,_,_,_⟩,_,_,_,_,_⟩ := bx5 BK274))
 go_ret
 exact ⟨tE, kB1 HB GE274⟩
def r04_inside.f (a0 : Int) (a1 : Int) (a2 : Int) : Option (Bool) := if a0 ≥ a1 then (some (decide (a0 ≤ a2))) else (some false)
set_option maxHeartbeats 8000000 in
set_option maxRecDepth 100000 in
theorem r04_inside.calls (a0 : Int) (a1 : Int) (a2 : Int) (r : Bool) (w : World) (h : r04_inside.f a0 a1 a2 = some r) :
    Calls Try.prog 46 #[.int .i64 a0, .int .i64 a1, .int .i64 a2] w fun e w' => e = .returned (.bool r) ∧ Drawn0 w w' := by
  have H : (if a0 ≥ a1 then (some (decide (a0 ≤ a2))) else (some false)) = some r := h
  clear h
  by_cases c4 : a0 ≥ a1
  · rw [if_pos c4] at H
    have c4b0 : decide (a1 ≤ a0) = true := decide_eq_true c4
    clear c4
    obtain rfl := Option.some.inj H
    go_enter Try.func46, Try.ntmps46
    go_wp2
    go_ret
    exact ⟨by first | rfl | (simp; done) | (simp [*]; done), by repeat (first | exact Drawn0.refl _ | apply Drawn0.step)⟩
  · rw [if_neg c4] at H
    have c4b0 : decide (a1 ≤ a0) = false := decide_eq_false c4
    clear c4
    obtain rfl := Option.some.inj H
    go_enter Try.func46, Try.ntmps46
    go_wp2
    go_ret
    exact ⟨by first | rfl | (simp; done) | (simp [*]; done), by repeat (first | exact Drawn0.refl _ | apply Drawn0.step)⟩
end Go.Proofs.Ytpdmnineampimaa.Q
