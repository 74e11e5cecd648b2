import Derived.Test.YtpdmnineampimaaYe
set_option linter.unusedVariables false
set_option linter.unusedSimpArgs false
namespace Go.Proofs.Ytpdmnineampimaa.Q
open Go.RowKit Go.Proofs.YtpdmnineampimaaW.PrintWords Go.Proofs.YtpdmnineampimaaW.PrintLast Go.Proofs.YtpdmnineampimaaW.PrintMore
attribute [local go_sem] max2_int min2_int max_two min_two max_three min_three max_four min_four
def r04_has.l0 : Nat → List ByteArray → ByteArray → Int → Option (Bool)
  | 0, _, _, _ => none
  | k + 1, x0, x1, x5 => if x5 < (x0.length : Int) then (if 0 ≤ x5 then (if (rdOf ByteArray.empty x0 x5).toList = x1.toList then (some true) else (r04_has.l0 k x0 x1 (wrap64 (x5 + 1)))) else (none)) else (some false)
def r04_has.f (k : Nat) (l0 : List ByteArray) (a1 : ByteArray) : Option (Bool) := r04_has.l0 k l0 a1 0
theorem r04_has.mono_l : ∀ k, (∀ y0 y1 y2, LeO (r04_has.l0 k y0 y1 y2) (r04_has.l0 (k + 1) y0 y1 y2))
  | 0 => fun _ _ _ r h => by simp [r04_has.l0] at h
  | k + 1 => by
    have ih0 := r04_has.mono_l k
    · intro y0 y1 y2
      unfold r04_has.l0
      repeat' first | (with_reducible apply ih0) | (with_reducible exact LeO.refl _) | (with_reducible exact LeO.none _) | (with_reducible refine LeO.ite ?_ ?_) | (with_reducible refine LeO.bind ?_ (fun _ => ?_))
theorem r04_has.mono : ∀ a0 a1 k, LeO (r04_has.f k a0 a1) (r04_has.f (k + 1) a0 a1) := by
  intro a0 a1 k
  have ih0 := r04_has.mono_l k
  unfold r04_has.f
  repeat' first | (with_reducible apply ih0) | (with_reducible exact LeO.refl _) | (with_reducible exact LeO.none _) | (with_reducible refine LeO.ite ?_ ?_) | (with_reducible refine LeO.bind ?_ (fun _ => ?_))
set_option maxHeartbeats 8000000 in
set_option maxRecDepth 100000 in
theorem r04_has.calls (k : Nat) (A0 : Option Addr) (c0 : Nat) (l0 : List ByteArray) (a1 : ByteArray) (r : Bool) (w : World) (hr0 : Kd.C Kd.string w A0 l0.length l0) (hc0 : l0.length ≤ c0) (h : r04_has.f k l0 a1 = some r) :
    Calls Try.prog 53 #[.slice A0 l0.length c0, .string a1] w fun e w' => e = .returned (.bool r) ∧ Drawn0 w w' := by
 have HR0 := Aside0.mk hr0
 have HC0 := Aside0.mk hc0
 clear hr0 hc0
 (try unfold r04_has.f at h)
 have H := h
 clear h
 have H' := Aside0.mk H
 clear H
 go_enter Try.func53, Try.ntmps53
 go_wp2
 go_loopg [5] k (fun kq v5 w' => ∃ (x5_1 : Int), v5 = .int .i64 x5_1 ∧ Aside0 (r04_has.l0 kq l0 a1 x5_1 = some r) ∧ Aside0 (kq ≤ k) ∧ Drawn0 w w')
 case atStart => exact ⟨(0), tQ, H', ⟨Nat.le_refl _⟩, by repeat (first | exact Drawn0.refl _ | apply Drawn0.step)⟩
 case round =>
  clear H'
  obtain ⟨x5_1, rfl, HA, HK1, ⟨m1, rfl⟩⟩ := hrel
  cases gk with
  | zero => exact absurd HA.out (by simp [r04_has.l0])
  | succ k1 =>
   have H := HA.out
   clear HA
   simp only [r04_has.l0] at H
   by_cases c3 : x5_1 < (l0.length : Int)
   rotate_left
   ·rw [if_neg c3] at H
    have c3b0 : decide (x5_1 < (l0.length : Int)) = false := decide_eq_false c3
    clear c3
    obtain rfl := Option.some.inj H
    go_wp2
    go_ret
    exact ⟨by first | rfl | (simp; done) | (simp [*]; done), by repeat (first | exact Drawn0.refl _ | apply Drawn0.step)⟩
   rw [if_pos c3] at H
   have c3b0 : decide (x5_1 < (l0.length : Int)) = true := decide_eq_true c3
   clear c3
   by_cases c4 : 0 ≤ x5_1
   rotate_left
   ·rw [if_neg c4] at H
    exact absurd H (by simp)
   rw [if_pos c4] at H
   have c4b0 : decide (0 ≤ x5_1) = true := decide_eq_true c4
   clear c4
   by_cases c5 : (rdOf ByteArray.empty l0 x5_1).toList = a1.toList
   ·rw [if_pos c5] at H
    have c5b0 : ((rdOf ByteArray.empty l0 x5_1).toList == a1.toList) = true := beq_iff_eq.mpr c5
    have c5b1 : ((rdOf ByteArray.empty l0 x5_1).toList != a1.toList) = false := bne_eq_false_iff_eq.mpr c5
    clear c5
    obtain rfl := Option.some.inj H
    have p304 : 0 ≤ (x5_1 : Int) := tD
    have q304 : x5_1 < (l0.length : Int) := tD
    obtain ⟨ad304, e304, hx304_0⟩ := Kd.at_string HR0.out x5_1 p304 q304
    cases e304
    replace p304 := eq_true p304
    replace q304 := eq_true q304
    go_wp2
    go_ret
    exact ⟨by first | rfl | (simp; done) | (simp [*]; done), by repeat (first | exact Drawn0.refl _ | apply Drawn0.step)⟩
   rw [if_neg c5] at H
   have c5b0 : ((rdOf ByteArray.empty l0 x5_1).toList == a1.toList) = false := beq_eq_false_iff_ne.mpr c5
   have c5b1 : ((rdOf ByteArray.empty l0 x5_1).toList != a1.toList) = true := bne_iff_ne.mpr c5
   have H' := Aside0.mk H
   clear H
   have p304 : 0 ≤ (x5_1 : Int) := tD
   have q304 : x5_1 < (l0.length : Int) := tD
   obtain ⟨ad304, e304, hx304_0⟩ := Kd.at_string HR0.out x5_1 p304 q304
   cases e304
   replace p304 := eq_true p304
   replace q304 := eq_true q304
   go_wp2
   go_roundg k1
   case measure => have := HK1.out; omega
   case rel => exact ⟨(wrap64 (x5_1 + 1)), tQ, H', ⟨kO HK1⟩, by repeat (first | exact Drawn0.refl _ | apply Drawn0.step)⟩
end Go.Proofs.Ytpdmnineampimaa.Q
