import Derived.Test.YtpdmnineampimaaYe
set_option linter.unusedVariables false
set_option linter.unusedSimpArgs false
namespace Go.Proofs.Ytpdmnineampimaa.Q
open Go.RowKit Go.Proofs.YtpdmnineampimaaW.PrintWords Go.Proofs.YtpdmnineampimaaW.PrintLast Go.Proofs.YtpdmnineampimaaW.PrintMore
attribute [local go_sem] max2_int min2_int max_two min_two max_three min_three max_four min_four
attribute [local go_sem high] eqA55
def r08_Same.l0 : Nat → List (S55) → List (S55) → Int → Option (Bool)
  | 0, _, _, _ => none
  | k + 1, x0, x1, x5 => if x5 < (x0.length : Int) then (if 0 ≤ x5 then (if x5 < (x1.length : Int) then (if (!(((rd_T55 x0 x5).f0) == ((rd_T55 x1 x5).f0)) || (!(((rd_T55 x0 x5).f1) == ((rd_T55 x1 x5).f1)) || (!(((rd_T55 x0 x5).f2) == ((rd_T55 x1 x5).f2))))) = true then (some false) else (r08_Same.l0 k x0 x1 (wrap64 (x5 + 1)))) else (none)) else (none)) else (some true)
def r08_Same.f (k : Nat) (l0 : List (S55)) (l1 : List (S55)) : Option (Bool) := if (l0.length : Int) = (l1.length : Int) then (r08_Same.l0 k l0 l1 0) else (some false)
theorem r08_Same.mono_l : ∀ k, (∀ y0 y1 y2, LeO (r08_Same.l0 k y0 y1 y2) (r08_Same.l0 (k + 1) y0 y1 y2))
  | 0 => fun _ _ _ r h => by simp [r08_Same.l0] at h
  | k + 1 => by
    have ih0 := r08_Same.mono_l k
    · intro y0 y1 y2
      unfold r08_Same.l0
      repeat' first | (with_reducible apply ih0) | (with_reducible exact LeO.refl _) | (with_reducible exact LeO.none _) | (with_reducible refine LeO.ite ?_ ?_) | (with_reducible refine LeO.bind ?_ (fun _ => ?_))
theorem r08_Same.mono : ∀ a0 a1 k, LeO (r08_Same.f k a0 a1) (r08_Same.f (k + 1) a0 a1) := by
  intro a0 a1 k
  have ih0 := r08_Same.mono_l k
  unfold r08_Same.f
  repeat' first | (with_reducible apply ih0) | (with_reducible exact LeO.refl _) | (with_reducible exact LeO.none _) | (with_reducible refine LeO.ite ?_ ?_) | (with_reducible refine LeO.bind ?_ (fun _ => ?_))
set_option maxHeartbeats 8000000 in
set_option maxRecDepth 100000 in
theorem r08_Same.calls (k : Nat) (A0 : Option Addr) (c0 : Nat) (l0 : List (S55)) (A1 : Option Addr) (c1 : Nat) (l1 : List (S55)) (r : Bool) (w : World) (hr0 : Kd.C k55 w A0 l0.length l0) (hc0 : l0.length ≤ c0) (hr1 : Kd.C k55 w A1 l1.length l1) (hc1 : l1.length ≤ c1) (h : r08_Same.f k l0 l1 = some r) :
    Calls Try.prog 19 #[.slice A0 l0.length c0, .slice A1 l1.length c1] w fun e w' => e = .returned (.bool r) ∧ Drawn0 w w' := by
 have hu55 := Try.underlying55
 have HR0 := Aside0.mk hr0
 have HC0 := Aside0.mk hc0
 clear hr0 hc0
 have HR1 := Aside0.mk hr1
 have HC1 := Aside0.mk hc1
 clear hr1 hc1
 (try unfold r08_Same.f at h)
 have H := h
 clear h
 by_cases c3 : (l0.length : Int) = (l1.length : Int)
 rotate_left
 ·rw [if_neg c3] at H
  have c3b0 : ((l0.length : Int) == (l1.length : Int)) = false := beq_eq_false_iff_ne.mpr c3
  have c3b1 : ((l0.length : Int) != (l1.length : Int)) = true := bne_iff_ne.mpr c3
  have c3b2 : (l0.length == l1.length) = false := by first | simpa using c3 | (simp at c3 ⊢; omega)
  obtain rfl := Option.some.inj H
  go_enter Try.func19, Try.ntmps19
  go_wp2
  repeat (go_quiet (fail); try go_wp2)
  go_ret
  exact ⟨by first | rfl | (simp; done) | (simp [*]; done), by repeat (first | exact Drawn0.refl _ | apply Drawn0.step)⟩
 rw [if_pos c3] at H
 have c3b0 : ((l0.length : Int) == (l1.length : Int)) = true := beq_iff_eq.mpr c3
 have c3b1 : ((l0.length : Int) != (l1.length : Int)) = false := bne_eq_false_iff_eq.mpr c3
 have c3b2 : (l0.length == l1.length) = true := by first | simpa using c3 | (simp at c3 ⊢; omega)
 clear c3
 have H' := Aside0.mk H
 clear H
 go_enter Try.func19, Try.ntmps19
 go_wp2
 repeat (go_quiet (fail); try go_wp2)
 go_loopg [5] k (fun kq v5 w' => ∃ (x5_1 : Int), v5 = .int .i64 x5_1 ∧ Aside0 (r08_Same.l0 kq l0 l1 x5_1 = some r) ∧ Aside0 (kq ≤ k) ∧ Drawn0 w w')
 case atStart => exact ⟨(0), tQ, H', ⟨Nat.le_refl _⟩, by repeat (first | exact Drawn0.refl _ | apply Drawn0.step)⟩
 case round =>
  clear H'
  obtain ⟨x5_1, rfl, HA, HK1, ⟨m1, rfl⟩⟩ := hrel
  cases gk with
  | zero => exact absurd HA.out (by simp [r08_Same.l0])
  | succ k1 =>
   have H := HA.out
   clear HA
   simp only [r08_Same.l0] at H
   by_cases c4 : x5_1 < (l0.length : Int)
   rotate_left
   ·rw [if_neg c4] at H
    have c4b0 : decide (x5_1 < (l0.length : Int)) = false := decide_eq_false c4
    clear c4
    obtain rfl := Option.some.inj H
    go_wp2
    repeat (go_quiet (fail); try go_wp2)
    go_ret
    exact ⟨by first | rfl | (simp; done) | (simp [*]; done), by repeat (first | exact Drawn0.refl _ | apply Drawn0.step)⟩
   rw [if_pos c4] at H
   have c4b0 : decide (x5_1 < (l0.length : Int)) = true := decide_eq_true c4
   clear c4
   by_cases c5 : 0 ≤ x5_1
   rotate_left
   ·rw [if_neg c5] at H
    exact absurd H (by simp)
   rw [if_pos c5] at H
   have c5b0 : decide (0 ≤ x5_1) = true := decide_eq_true c5
   clear c5
   by_cases c6 : x5_1 < (l1.length : Int)
   rotate_left
   ·rw [if_neg c6] at H
    exact absurd H (by simp)
   rw [if_pos c6] at H
   have c6b0 : decide (x5_1 < (l1.length : Int)) = true := decide_eq_true c6
   clear c6
   by_cases c7 : (!(((rd_T55 l0 x5_1).f0) == ((rd_T55 l1 x5_1).f0)) || (!(((rd_T55 l0 x5_1).f1) == ((rd_T55 l1 x5_1).f1)) || (!(((rd_T55 l0 x5_1).f2) == ((rd_T55 l1 x5_1).f2))))) = true
   ·rw [if_pos c7] at H
    have c7b0 : (!(((rd_T55 l0 x5_1).f0) == ((rd_T55 l1 x5_1).f0)) || (!(((rd_T55 l0 x5_1).f1) == ((rd_T55 l1 x5_1).f1)) || (!(((rd_T55 l0 x5_1).f2) == ((rd_T55 l1 x5_1).f2))))) = true := c7
    clear c7
    obtain rfl := Option.some.inj H
    have p130 : 0 ≤ (x5_1 : Int) := tD
    have q130 : x5_1 < (l0.length : Int) := tD
    obtain ⟨ad130, e130, hx130_0, hx130_1, hx130_2⟩ := at_T55 HR0.out x5_1 p130 q130
    cases e130
    replace p130 := eq_true p130
    replace q130 := eq_true q130
    have p131 : 0 ≤ (x5_1 : Int) := tD
    have q131 : x5_1 < (l1.length : Int) := tD
    obtain ⟨ad131, e131, hx131_0, hx131_1, hx131_2⟩ := at_T55 HR1.out x5_1 p131 q131
    cases e131
    replace p131 := eq_true p131
    replace q131 := eq_true q131
    go_wp2
    repeat (go_quiet (fail); try go_wp2)
    go_ret
    exact ⟨by first | rfl | (simp; done) | (simp [*]; done), by repeat (first | exact Drawn0.refl _ | apply Drawn0.step)⟩
   rw [if_neg c7] at H
   have c7b0 : (!(((rd_T55 l0 x5_1).f0) == ((rd_T55 l1 x5_1).f0)) || (!(((rd_T55 l0 x5_1).f1) == ((rd_T55 l1 x5_1).f1)) || (!(((rd_T55 l0 x5_1).f2) == ((rd_T55 l1 x5_1).f2))))) = false := by simpa using c7
   clear c7
   have H' := Aside0.mk H
   clear H
   have p130 : 0 ≤ (x5_1 : Int) := tD
   have q130 : x5_1 < (l0.length : Int) := tD
   obtain ⟨ad130, e130, hx130_0, hx130_1, hx130_2⟩ := at_T55 HR0.out x5_1 p130 q130
   cases e130
   replace p130 := eq_true p130
   replace q130 := eq_true q130
   have p131 : 0 ≤ (x5_1 : Int) := tD
   have q131 : x5_1 < (l1.length : Int) := tD
   obtain ⟨ad131, e131, hx131_0, hx131_1, hx131_2⟩ := at_T55 HR1.out x5_1 p131 q131
   cases e131
   replace p131 := eq_true p131
   replace q131 := eq_true q131
   go_wp2
   repeat (go_quiet (fail); try go_wp2)
   go_roundg k1
   case measure => have := HK1.out; omega
   case rel => exact ⟨(wrap64 (x5_1 + 1)), tQ, H', ⟨kO HK1⟩, by repeat (first | exact Drawn0.refl _ | apply Drawn0.step)⟩
def w08_cable.f (a0 : ByteArray) (a1 : Int) : Option (ByteArray × Int × Int × Int × Int × Int × Int × Int × Int × Int × Int) := some (a0, a1, 100, 100, 0, 0, 0, 0, 0, 0, 0)
set_option maxHeartbeats 8000000 in
set_option maxRecDepth 100000 in
theorem w08_cable.calls (a0 : ByteArray) (a1 : Int) (r1 : ByteArray) (r2 : Int) (r3 : Int) (r4 : Int) (r5 : Int) (r6 : Int) (r7 : Int) (r8 : Int) (r9 : Int) (r10 : Int) (r11 : Int) (w : World) (h : w08_cable.f a0 a1 = some (r1, r2, r3, r4, r5, r6, r7, r8, r9, r10, r11)) :
    Calls Try.prog 24 #[.string a0, .int .i64 a1] w fun e w' => e = .returned (.agg #[.string r1, .int .i64 r2, .int .i64 r3, .int .i64 r4, .int .i64 r5, .int .i64 r6, .int .i64 r7, .int .i64 r8, .int .i64 r9, .int .i64 r10, .int .i64 r11]) ∧ Below w.heap.size w w' := by
 have hu48 := Try.underlying48
 have HB := Aside0.mk (Below.refl w.heap.size w)
 (try unfold w08_cable.f at h)
 have H := h
 clear h
 simp only [Option.some.injEq, Prod.mk.injEq] at H
 obtain ⟨rfl, rfl, rfl, rfl, rfl, rfl, rfl, rfl, rfl, rfl, rfl⟩ := H
 go_enter Try.func24, Try.ntmps24
 go_wp2_with (first | ((with_reducible refine gate_dst (N := 4) rfl ?_); refine bE 4 48 #[.string (⟨#[]⟩ : ByteArray), .int .i64 0, .int .i64 0, .int .i64 0, .int .i64 0, .int .i64 0, .int .i64 0, .int .i64 0, .int .i64 0, .int .i64 0, .int .i64 0] ?_; intro gb132 hg w3 hbox hb; have BK132 := Aside0.mk hbox; have GW132 := gE hg (kB HB); have GE132 := gE hg (kB HB); replace HB := bS (kB HB) hb; clear hb hbox hg; obtain ⟨⟨_,_,_,_,_,_,_,_,_,_,_⟩,_,_,_,_,_,_,_,_,_,_,_⟩ := bx11 BK132))
 refine bodyPost_ret (results_cell_row rfl _ _ gb132 48 #[.string a0, .int .i64 a1, .int .i64 100, .int .i64 100, .int .i64 0, .int .i64 0, .int .i64 0, .int .i64 0, .int .i64 0, .int .i64 0, .int .i64 0] (0, 0) _ rfl (kN BK132) Try.underlying48 rfl (by kernel_rfl)) rfl ?_
 exact ⟨tE, kB1 HB GE132⟩
end Go.Proofs.Ytpdmnineampimaa.Q
