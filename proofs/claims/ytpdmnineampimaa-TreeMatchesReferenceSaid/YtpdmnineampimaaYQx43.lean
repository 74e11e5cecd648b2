import Derived.Test.YtpdmnineampimaaYe
set_option linter.unusedVariables false
set_option linter.unusedSimpArgs false
namespace Go.Proofs.Ytpdmnineampimaa.Q
open Go.RowKit Go.Proofs.YtpdmnineampimaaW.PrintWords Go.Proofs.YtpdmnineampimaaW.PrintLast Go.Proofs.YtpdmnineampimaaW.PrintMore
attribute [local go_sem] max2_int min2_int max_two min_two max_three min_three max_four min_four
def r08_Currents.l0 : Nat → List Int → Int → List (S48) → List (S62) → List (S84) → List (S42) → List (S87) → Option (Bool)
  | 0, _, _, _, _, _, _, _ => none
  | k + 1, x1, x5, x380000, x380001, x380002, x380003, x380004 => if x5 < (x1.length : Int) then (if 0 ≤ x5 then (if (rd x1 x5) < 0 then (some false) else (if (rd x1 x5) > 80 then (some false) else (r08_Currents.l0 k x1 (wrap64 (x5 + 1)) x380000 x380001 x380002 x380003 x380004))) else (none)) else (some ((x1.length : Int) == (x380003.length : Int)))
def r08_Currents.f (k : Nat) (l0_0 : List (S48)) (l0_1 : List (S62)) (l0_2 : List (S84)) (l0_3 : List (S42)) (l0_4 : List (S87)) (l1 : List Int) : Option (Bool) := r08_Currents.l0 k l1 0 l0_0 l0_1 l0_2 l0_3 l0_4
theorem r08_Currents.mono_l : ∀ k, (∀ y0 y1 y2 y3 y4 y5 y6, LeO (r08_Currents.l0 k y0 y1 y2 y3 y4 y5 y6) (r08_Currents.l0 (k + 1) y0 y1 y2 y3 y4 y5 y6))
  | 0 => fun _ _ _ _ _ _ _ r h => by simp [r08_Currents.l0] at h
  | k + 1 => by
    have ih0 := r08_Currents.mono_l k
    · intro y0 y1 y2 y3 y4 y5 y6
      unfold r08_Currents.l0
      repeat' first | (with_reducible apply ih0) | (with_reducible exact LeO.refl _) | (with_reducible exact LeO.none _) | (with_reducible refine LeO.ite ?_ ?_) | (with_reducible refine LeO.bind ?_ (fun _ => ?_))
theorem r08_Currents.mono : ∀ a0 a1 a2 a3 a4 a5 k, LeO (r08_Currents.f k a0 a1 a2 a3 a4 a5) (r08_Currents.f (k + 1) a0 a1 a2 a3 a4 a5) := by
  intro a0 a1 a2 a3 a4 a5 k
  have ih0 := r08_Currents.mono_l k
  unfold r08_Currents.f
  repeat' first | (with_reducible apply ih0) | (with_reducible exact LeO.refl _) | (with_reducible exact LeO.none _) | (with_reducible refine LeO.ite ?_ ?_) | (with_reducible refine LeO.bind ?_ (fun _ => ?_))
set_option maxHeartbeats 8000000 in
set_option maxRecDepth 100000 in
theorem r08_Currents.calls (k : Nat) (A0_0 : Option Addr) (c0_0 : Nat) (l0_0 : List (S48)) (A0_1 : Option Addr) (c0_1 : Nat) (l0_1 : List (S62)) (A0_2 : Option Addr) (c0_2 : Nat) (l0_2 : List (S84)) (A0_3 : Option Addr) (c0_3 : Nat) (l0_3 : List (S42)) (A0_4 : Option Addr) (c0_4 : Nat) (l0_4 : List (S87)) (A1 : Option Addr) (c1 : Nat) (l1 : List Int) (r : Bool) (w : World) (hr0_0 : Kd.C k48 w A0_0 l0_0.length l0_0) (hc0_0 : l0_0.length ≤ c0_0) (hr0_1 : Kd.C k62 w A0_1 l0_1.length l0_1) (hc0_1 : l0_1.length ≤ c0_1) (hr0_2 : Kd.C k84 w A0_2 l0_2.length l0_2) (hc0_2 : l0_2.length ≤ c0_2) (hr0_3 : Kd.C k42 w A0_3 l0_3.length l0_3) (hc0_3 : l0_3.length ≤ c0_3) (hr0_4 : Kd.C k87 w A0_4 l0_4.length l0_4) (hc0_4 : l0_4.length ≤ c0_4) (hr1 : Kd.C (Kd.int .i64) w A1 l1.length l1) (hc1 : l1.length ≤ c1) (h : r08_Currents.f k l0_0 l0_1 l0_2 l0_3 l0_4 l1 = some r) :
    Calls Try.prog 33 #[.agg #[.slice A0_0 l0_0.length c0_0, .slice A0_1 l0_1.length c0_1, .slice A0_2 l0_2.length c0_2, .slice A0_3 l0_3.length c0_3, .slice A0_4 l0_4.length c0_4], .slice A1 l1.length c1] w fun e w' => e = .returned (.bool r) ∧ Below w.heap.size w w' := by
 have hu28 := Try.underlying28
 have HR0_0 := Aside0.mk hr0_0
 have HC0_0 := Aside0.mk hc0_0
 clear hr0_0 hc0_0
 have HR0_1 := Aside0.mk hr0_1
 have HC0_1 := Aside0.mk hc0_1
 clear hr0_1 hc0_1
 have HR0_2 := Aside0.mk hr0_2
 have HC0_2 := Aside0.mk hc0_2
 clear hr0_2 hc0_2
 have HR0_3 := Aside0.mk hr0_3
 have HC0_3 := Aside0.mk hc0_3
 clear hr0_3 hc0_3
 have HR0_4 := Aside0.mk hr0_4
 have HC0_4 := Aside0.mk hc0_4
 clear hr0_4 hc0_4
 have HR1 := Aside0.mk hr1
 have HC1 := Aside0.mk hc1
 clear hr1 hc1
 have HB := Aside0.mk (Below.refl w.heap.size w)
 (try unfold r08_Currents.f at h)
 have H := h
 clear h
 have H' := Aside0.mk H
 clear H
 go_enter Try.func33, Try.ntmps33
 go_wp2_with (first | ((with_reducible refine gate_dst (N := 2) rfl ?_); refine bE 2 28 #[.slice A0_0 l0_0.length c0_0, .slice A0_1 l0_1.length c0_1, .slice A0_2 l0_2.length c0_2, .slice A0_3 l0_3.length c0_3, .slice A0_4 l0_4.length c0_4] ?_; intro gb379 hg w3 hbox hb; have BK379 := Aside0.mk hbox; have GW379 := gE hg (kB HB); have GE379 := gE hg (kB HB); replace HB := bS (kB HB) hb; clear hb hbox hg))
 go_loopg [5] k (fun kq v5 w' => ∃ (x5_1 : Int), v5 = .int .i64 x5_1 ∧ Aside0 (r08_Currents.l0 kq l1 x5_1 l0_0 l0_1 l0_2 l0_3 l0_4 = some r) ∧ Aside0 (kq ≤ k) ∧ Aside0 (w'.heap[gb379]? = some (.cells #[(.slice A0_0 l0_0.length c0_0), (.slice A0_1 l0_1.length c0_1), (.slice A0_2 l0_2.length c0_2), (.slice A0_3 l0_3.length c0_3), (.slice A0_4 l0_4.length c0_4)] 28 (0, 0))) ∧ Aside0 (Below w.heap.size w w'))
 case atStart => exact ⟨(0), tQ, H', ⟨Nat.le_refl _⟩, ⟨kK BK379⟩, ⟨kB1 HB GE379⟩⟩
 case round =>
  clear H'
  obtain ⟨x5_1, rfl, HA, HK1, BK379, HB⟩ := hrel
  cases gk with
  | zero => exact absurd HA.out (by simp [r08_Currents.l0])
  | succ k1 =>
   have H := HA.out
   clear HA
   simp only [r08_Currents.l0] at H
   by_cases c4 : x5_1 < (l1.length : Int)
   rotate_left
   ·rw [if_neg c4] at H
    have c4b0 : decide (x5_1 < (l1.length : Int)) = false := decide_eq_false c4
    clear c4
    obtain rfl := Option.some.inj H
    obtain ⟨⟨_,_,_,_,_⟩,_,_,_,_,_⟩ := bx5 BK379
    go_wp2
    go_ret
    exact ⟨tE, kB1 HB GE379⟩
   rw [if_pos c4] at H
   have c4b0 : decide (x5_1 < (l1.length : Int)) = true := decide_eq_true c4
   clear c4
   by_cases c5 : 0 ≤ x5_1
   rotate_left
   ·rw [if_neg c5] at H
    exact absurd H (by simp)
   rw [if_pos c5] at H
   have c5b0 : decide (0 ≤ x5_1) = true := decide_eq_true c5
   clear c5
   by_cases c6 : (rd l1 x5_1) < 0
   ·rw [if_pos c6] at H
    have c6b0 : decide ((rd l1 x5_1) < 0) = true := decide_eq_true c6
    clear c6
    obtain rfl := Option.some.inj H
    have p380 : 0 ≤ (x5_1 : Int) := tD
    have q380 : x5_1 < (l1.length : Int) := tD
    obtain ⟨ad380, e380, hx380_0⟩ := Kd.at_int HR1.out x5_1 p380 q380
    cases e380
    replace hx380_0 := cB HB hx380_0
    replace p380 := eq_true p380
    replace q380 := eq_true q380
    go_wp2
    go_ret
    exact ⟨tE, kB1 HB GE379⟩
   rw [if_neg c6] at H
   have c6b0 : decide ((rd l1 x5_1) < 0) = false := decide_eq_false c6
   clear c6
   by_cases c7 : (rd l1 x5_1) > 80
   ·rw [if_pos c7] at H
    have c7b0 : decide (80 < (rd l1 x5_1)) = true := decide_eq_true c7
    clear c7
    obtain rfl := Option.some.inj H
    have p380 : 0 ≤ (x5_1 : Int) := tD
    have q380 : x5_1 < (l1.length : Int) := tD
    obtain ⟨ad380, e380, hx380_0⟩ := Kd.at_int HR1.out x5_1 p380 q380
    cases e380
    replace hx380_0 := cB HB hx380_0
    replace p380 := eq_true p380
    replace q380 := eq_true q380
    have p381 : 0 ≤ (x5_1 : Int) := tD
    have q381 : x5_1 < (l1.length : Int) := tD
    obtain ⟨ad381, e381, hx381_0⟩ := Kd.at_int HR1.out x5_1 p381 q381
    obtain rfl : ad380 = ad381 := (by injection e381)
    replace hx381_0 := cB HB hx381_0
    replace p381 := eq_true p381
    replace q381 := eq_true q381
    go_wp2
    go_ret
    exact ⟨tE, kB1 HB GE379⟩
   rw [if_neg c7] at H
   have c7b0 : decide (80 < (rd l1 x5_1)) = false := decide_eq_false c7
   clear c7
   have H' := Aside0.mk H
   clear H
   have p380 : 0 ≤ (x5_1 : Int) := tD
   have q380 : x5_1 < (l1.length : Int) := tD
   obtain ⟨ad380, e380, hx380_0⟩ := Kd.at_int HR1.out x5_1 p380 q380
   cases e380
   replace hx380_0 := cB HB hx380_0
   replace p380 := eq_true p380
   replace q380 := eq_true q380
   have p381 : 0 ≤ (x5_1 : Int) := tD
   have q381 : x5_1 < (l1.length : Int) := tD
   obtain ⟨ad381, e381, hx381_0⟩ := Kd.at_int HR1.out x5_1 p381 q381
   obtain rfl : ad380 = ad381 := (by injection e381)
   replace hx381_0 := cB HB hx381_0
   replace p381 := eq_true p381
   replace q381 := eq_true q381
   go_wp2
   go_roundg k1
   case measure => have := HK1.out; omega
   case rel => exact ⟨(wrap64 (x5_1 + 1)), tQ, H', ⟨kO HK1⟩, ⟨kK BK379⟩, ⟨kB1 HB GE379⟩⟩
end Go.Proofs.Ytpdmnineampimaa.Q
