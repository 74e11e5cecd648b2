import Derived.Test.YtpdmnineampimaaYe
set_option linter.unusedVariables false
set_option linter.unusedSimpArgs false
namespace Go.Proofs.Ytpdmnineampimaa.Q
open Go.RowKit Go.Proofs.YtpdmnineampimaaW.PrintWords Go.Proofs.YtpdmnineampimaaW.PrintLast Go.Proofs.YtpdmnineampimaaW.PrintMore
attribute [local go_sem] max2_int min2_int max_two min_two max_three min_three max_four min_four
def r08_On.l0 : Nat → Int → Int → List (S48) → List (S62) → List (S84) → List (S42) → List (S87) → Option (Bool)
  | 0, _, _, _, _, _, _, _ => none
  | k + 1, x1, x2, x384000, x384001, x384002, x384003, x384004 => if x2 ≥ 0 then (if x2 = x1 then (some true) else (if 0 ≤ x2 then (if x2 < (x384000.length : Int) then (r08_On.l0 k x1 ((rd_T48 x384000 x2).f1) x384000 x384001 x384002 x384003 x384004) else (none)) else (none))) else (some false)
def r08_On.f (k : Nat) (l0_0 : List (S48)) (l0_1 : List (S62)) (l0_2 : List (S84)) (l0_3 : List (S42)) (l0_4 : List (S87)) (a1 : Int) (a2 : Int) : Option (Bool) := r08_On.l0 k a1 a2 l0_0 l0_1 l0_2 l0_3 l0_4
theorem r08_On.mono_l : ∀ k, (∀ y0 y1 y2 y3 y4 y5 y6, LeO (r08_On.l0 k y0 y1 y2 y3 y4 y5 y6) (r08_On.l0 (k + 1) y0 y1 y2 y3 y4 y5 y6))
  | 0 => fun _ _ _ _ _ _ _ r h => by simp [r08_On.l0] at h
  | k + 1 => by
    have ih0 := r08_On.mono_l k
    · intro y0 y1 y2 y3 y4 y5 y6
      unfold r08_On.l0
      repeat' first | (with_reducible apply ih0) | (with_reducible exact LeO.refl _) | (with_reducible exact LeO.none _) | (with_reducible refine LeO.ite ?_ ?_) | (with_reducible refine LeO.bind ?_ (fun _ => ?_))
theorem r08_On.mono : ∀ a0 a1 a2 a3 a4 a5 a6 k, LeO (r08_On.f k a0 a1 a2 a3 a4 a5 a6) (r08_On.f (k + 1) a0 a1 a2 a3 a4 a5 a6) := by
  intro a0 a1 a2 a3 a4 a5 a6 k
  have ih0 := r08_On.mono_l k
  unfold r08_On.f
  repeat' first | (with_reducible apply ih0) | (with_reducible exact LeO.refl _) | (with_reducible exact LeO.none _) | (with_reducible refine LeO.ite ?_ ?_) | (with_reducible refine LeO.bind ?_ (fun _ => ?_))
set_option maxHeartbeats 8000000 in
set_option maxRecDepth 100000 in
theorem r08_On.calls (k : Nat) (A0_0 : Option Addr) (c0_0 : Nat) (l0_0 : List (S48)) (A0_1 : Option Addr) (c0_1 : Nat) (l0_1 : List (S62)) (A0_2 : Option Addr) (c0_2 : Nat) (l0_2 : List (S84)) (A0_3 : Option Addr) (c0_3 : Nat) (l0_3 : List (S42)) (A0_4 : Option Addr) (c0_4 : Nat) (l0_4 : List (S87)) (a1 : Int) (a2 : Int) (r : Bool) (w : World) (hr0_0 : Kd.C k48 w A0_0 l0_0.length l0_0) (hc0_0 : l0_0.length ≤ c0_0) (hr0_1 : Kd.C k62 w A0_1 l0_1.length l0_1) (hc0_1 : l0_1.length ≤ c0_1) (hr0_2 : Kd.C k84 w A0_2 l0_2.length l0_2) (hc0_2 : l0_2.length ≤ c0_2) (hr0_3 : Kd.C k42 w A0_3 l0_3.length l0_3) (hc0_3 : l0_3.length ≤ c0_3) (hr0_4 : Kd.C k87 w A0_4 l0_4.length l0_4) (hc0_4 : l0_4.length ≤ c0_4) (h : r08_On.f k l0_0 l0_1 l0_2 l0_3 l0_4 a1 a2 = some r) :
    Calls Try.prog 35 #[.agg #[.slice A0_0 l0_0.length c0_0, .slice A0_1 l0_1.length c0_1, .slice A0_2 l0_2.length c0_2, .slice A0_3 l0_3.length c0_3, .slice A0_4 l0_4.length c0_4], .int .i64 a1, .int .i64 a2] w fun e w' => e = .returned (.bool r) ∧ Below w.heap.size w w' := by
 have hu28 := Try.underlying28
 have HR0_0 := Aside0.mk hr0_0
 have HC0_0 := Aside0.mk hc0_0
 clear hr0_0 hc0_0
 have HR0_1 := Aside0.mk hr0_1
 have HC0_1 := Aside0.mk hc0_1
 clear hr0_1 hc0_1
 have HR0_2 := Aside0.mk hr0_2
 have HC0_2 := Aside0.mk hc0_2
 clear hr0_2 hc0_2
 have HR0_3 := Aside0.mk hr0_3
 have HC0_3 := Aside0.mk hc0_3
 clear hr0_3 hc0_3
 have HR0_4 := Aside0.mk hr0_4
 have HC0_4 := Aside0.mk hc0_4
 clear hr0_4 hc0_4
 have HB := Aside0.mk (Below.refl w.heap.size w)
 (try unfold r08_On.f at h)
 have H := h
 clear h
 have H' := Aside0.mk H
 clear H
 go_enter Try.func35, Try.ntmps35
 go_wp2_with (first | ((with_reducible refine gate_dst (N := 3) rfl ?_); refine bE 3 28 #[.slice A0_0 l0_0.length c0_0, .slice A0_1 l0_1.length c0_1, .slice A0_2 l0_2.length c0_2, .slice A0_3 l0_3.length c0_3, .slice A0_4 l0_4.length c0_4] ?_; intro gb383 hg w4 hbox hb; have BK383 := Aside0.mk hbox; have GW383 := gE hg (kB HB); have GE383 := gE hg (kB HB); replace HB := bS (kB HB) hb; clear hb hbox hg))
 go_loopg [2] k (fun kq v2 w' => ∃ (x2_1 : Int), v2 = .int .i64 x2_1 ∧ Aside0 (r08_On.l0 kq a1 x2_1 l0_0 l0_1 l0_2 l0_3 l0_4 = some r) ∧ Aside0 (kq ≤ k) ∧ Aside0 (w'.heap[gb383]? = some (.cells #[(.slice A0_0 l0_0.length c0_0), (.slice A0_1 l0_1.length c0_1), (.slice A0_2 l0_2.length c0_2), (.slice A0_3 l0_3.length c0_3), (.slice A0_4 l0_4.length c0_4)] 28 (0, 0))) ∧ Aside0 (Below w.heap.size w w'))
 case atStart => exact ⟨(a2), tQ, H', ⟨Nat.le_refl _⟩, ⟨kK BK383⟩, ⟨kB1 HB GE383⟩⟩
 case round =>
  clear H'
  obtain ⟨x2_1, rfl, HA, HK1, BK383, HB⟩ := hrel
  cases gk with
  | zero => exact absurd HA.out (by simp [r08_On.l0])
  | succ k1 =>
   have H := HA.out
   clear HA
   simp only [r08_On.l0] at H
   by_cases c5 : x2_1 ≥ 0
   rotate_left
   ·rw [if_neg c5] at H
    have c5b0 : decide (0 ≤ x2_1) = false := decide_eq_false c5
    clear c5
    obtain rfl := Option.some.inj H
    go_wp2
    go_ret
    exact ⟨tE, kB1 HB GE383⟩
   rw [if_pos c5] at H
   have c5b0 : decide (0 ≤ x2_1) = true := decide_eq_true c5
   clear c5
   by_cases c6 : x2_1 = a1
   ·rw [if_pos c6] at H
    have c6b0 : (x2_1 == a1) = true := beq_iff_eq.mpr c6
    have c6b1 : (x2_1 != a1) = false := bne_eq_false_iff_eq.mpr c6
    clear c6
    obtain rfl := Option.some.inj H
    go_wp2
    go_ret
    exact ⟨tE, kB1 HB GE383⟩
   rw [if_neg c6] at H
   have c6b0 : (x2_1 == a1) = false := beq_eq_false_iff_ne.mpr c6
   have c6b1 : (x2_1 != a1) = true := bne_iff_ne.mpr c6
   by_cases c7 : 0 ≤ x2_1
   rotate_left
   ·rw [if_neg c7] at H
    exact absurd H (by simp)
   rw [if_pos c7] at H
   have c7b0 : decide (0 ≤ x2_1) = true := decide_eq_true c7
   clear c7
   by_cases c8 : x2_1 < (l0_0.length : Int)
   rotate_left
   ·rw [if_neg c8] at H
    exact absurd H (by simp)
   rw [if_pos c8] at H
   have c8b0 : decide (x2_1 < (l0_0.length : Int)) = true := decide_eq_true c8
   clear c8
   have H' := Aside0.mk H
   clear H
   obtain ⟨⟨_,_,_,_,_⟩,_,_,_,_,_⟩ := bx5 BK383
   have p384 : 0 ≤ (x2_1 : Int) := tD
   have q384 : x2_1 < (l0_0.length : Int) := tD
   obtain ⟨ad384, e384, hx384_0, hx384_1, hx384_2, hx384_3, hx384_4, hx384_5, hx384_6, hx384_7, hx384_8, hx384_9, hx384_10⟩ := at_T48 HR0_0.out x2_1 p384 q384
   cases e384
   replace hx384_0 := cB HB hx384_0
   replace hx384_1 := cB HB hx384_1
   replace hx384_2 := cB HB hx384_2
   replace hx384_3 := cB HB hx384_3
   replace hx384_4 := cB HB hx384_4
   replace hx384_5 := cB HB hx384_5
   replace hx384_6 := cB HB hx384_6
   replace hx384_7 := cB HB hx384_7
   replace hx384_8 := cB HB hx384_8
   replace hx384_9 := cB HB hx384_9
   replace hx384_10 := cB HB hx384_10
   replace p384 := eq_true p384
   replace q384 := eq_true q384
   go_wp2
   go_roundg k1
   case measure => have := HK1.out; omega
   case rel => exact ⟨((rd_T48 l0_0 x2_1).f1), tQ, H', ⟨kO HK1⟩, ⟨kK BK383⟩, ⟨kB1 HB GE383⟩⟩
end Go.Proofs.Ytpdmnineampimaa.Q
