import Derived.Test.YtpdmnineampimaaZe
import Derived.Test.YtpdmnineampimaaZQx25
import Derived.Test.YtpdmnineampimaaZQx27
import Derived.Test.YtpdmnineampimaaZQx31
import Derived.Test.YtpdmnineampimaaZQx48
import Derived.Test.YtpdmnineampimaaZQx50
set_option linter.unusedVariables false
set_option linter.unusedSimpArgs false
namespace Go.Proofs.Ytpdmnineampimaa.Q
open Go.RowKit Go.Proofs.YtpdmnineampimaaW.PrintWords Go.Proofs.YtpdmnineampimaaW.PrintLast Go.Proofs.YtpdmnineampimaaW.PrintMore
attribute [local go_sem] max2_int min2_int max_two min_two max_three min_three max_four min_four
mutual
def w08_TreeBelow.l0 : Nat → Bool → Int → Int → List (S48) → List (S62) → List (S84) → List (S42) → List (S87) → Option (Bool)
  | 0, _, _, _, _, _, _, _, _ => none
  | k + 1, x3, x19, x20, x460000, x460001, x460002, x460003, x460004 => if x20 < x19 then ((tree_Below.f x460000 x460001 x460002 x460003 x460004 x20).bind fun bt462 => (if bt462.2 = 0 then (if x20 = 0 then (w08_TreeBelow.j1 k x3 x20 bt462.1 x19 x20 ((bt462.1.length : Int) != (x460003.length : Int)) x460000 x460001 x460002 x460003 x460004) else (w08_TreeBelow.j1 k x3 x20 bt462.1 x19 x20 false x460000 x460001 x460002 x460003 x460004)) else (w08_TreeBelow.j1 k x3 x20 bt462.1 x19 x20 true x460000 x460001 x460002 x460003 x460004))) else (some x3)
def w08_TreeBelow.j1 : Nat → Bool → Int → List Int → Int → Int → Bool → List (S48) → List (S62) → List (S84) → List (S42) → List (S87) → Option (Bool)
  | 0, _, _, _, _, _, _, _, _, _, _, _ => none
  | k + 1, x3, x4, x5, x19, x20, x42, x460000, x460001, x460002, x460003, x460004 => if x42 = true then (some false) else (w08_TreeBelow.l1 k x3 x4 x5 0 x19 x20 (x460003.length : Int) 0 x460000 x460001 x460002 x460003 x460004)
def w08_TreeBelow.l1 : Nat → Bool → Int → List Int → Int → Int → Int → Int → Int → List (S48) → List (S62) → List (S84) → List (S42) → List (S87) → Option (Bool)
  | 0, _, _, _, _, _, _, _, _, _, _, _, _, _ => none
  | k + 1, x3, x4, x5, x7, x19, x20, x45, x46, x460000, x460001, x460002, x460003, x460004 => if x46 < x45 then ((tree_Path.f x460000 x460001 x460002 x460003 x460004 x46).bind fun bt466 => (if bt466.2 = 0 then ((w08_in.f k bt466.1 x4).bind fun t470 => ((w08_in.f k x5 x46).bind fun t471 => (w08_TreeBelow.j3 k x3 x4 x5 x7 bt466.1 x19 x20 x45 x46 (t470 != t471) x460000 x460001 x460002 x460003 x460004))) else (w08_TreeBelow.j3 k x3 x4 x5 x7 bt466.1 x19 x20 x45 x46 true x460000 x460001 x460002 x460003 x460004))) else (w08_TreeBelow.l2 k x3 x5 x7 1 x19 x20 x460000 x460001 x460002 x460003 x460004)
def w08_TreeBelow.j3 : Nat → Bool → Int → List Int → Int → List Int → Int → Int → Int → Int → Bool → List (S48) → List (S62) → List (S84) → List (S42) → List (S87) → Option (Bool)
  | 0, _, _, _, _, _, _, _, _, _, _, _, _, _, _, _ => none
  | k + 1, x3, x4, x5, x7, x9, x19, x20, x45, x46, x65, x460000, x460001, x460002, x460003, x460004 => if x65 = true then (some false) else ((w08_in.f k x9 x4).bind fun t472 => (if t472 = true then (w08_TreeBelow.l1 k x3 x4 x5 (wrap64 (x7 + 1)) x19 x20 x45 (wrap64 (x46 + 1)) x460000 x460001 x460002 x460003 x460004) else (w08_TreeBelow.l1 k x3 x4 x5 x7 x19 x20 x45 (wrap64 (x46 + 1)) x460000 x460001 x460002 x460003 x460004)))
def w08_TreeBelow.l2 : Nat → Bool → List Int → Int → Int → Int → Int → List (S48) → List (S62) → List (S84) → List (S42) → List (S87) → Option (Bool)
  | 0, _, _, _, _, _, _, _, _, _, _, _ => none
  | k + 1, x3, x5, x7, x11, x19, x20, x460000, x460001, x460002, x460003, x460004 => if x11 < (x5.length : Int) then (if 0 ≤ x11 then (if 0 ≤ (wrap64 (x11 - 1)) then (if (wrap64 (x11 - 1)) < (x5.length : Int) then (if (rd x5 x11) ≤ (rd x5 (wrap64 (x11 - 1))) then (some false) else (w08_TreeBelow.l2 k x3 x5 x7 (wrap64 (x11 + 1)) x19 x20 x460000 x460001 x460002 x460003 x460004)) else (none)) else (none)) else (none)) else (if x7 = (x5.length : Int) then (w08_TreeBelow.l0 k x3 x19 (wrap64 (x20 + 1)) x460000 x460001 x460002 x460003 x460004) else (some false))
end
def w08_TreeBelow.f (k : Nat) (l0_0 : List (S48)) (l0_1 : List (S62)) (l0_2 : List (S84)) (l0_3 : List (S42)) (l0_4 : List (S87)) : Option (Bool) := (w08_head.f k).bind fun t460 => ((w08_usable.f k l0_0 l0_1 l0_2 l0_3 l0_4).bind fun t461 => (if t461 = true then (w08_TreeBelow.l0 k t460 (l0_0.length : Int) 0 l0_0 l0_1 l0_2 l0_3 l0_4) else (some t460)))
theorem w08_TreeBelow.mono_l : ∀ k, (∀ y0 y1 y2 y3 y4 y5 y6 y7, LeO (w08_TreeBelow.l0 k y0 y1 y2 y3 y4 y5 y6 y7) (w08_TreeBelow.l0 (k + 1) y0 y1 y2 y3 y4 y5 y6 y7)) ∧ (∀ y0 y1 y2 y3 y4 y5 y6 y7 y8 y9 y10, LeO (w08_TreeBelow.j1 k y0 y1 y2 y3 y4 y5 y6 y7 y8 y9 y10) (w08_TreeBelow.j1 (k + 1) y0 y1 y2 y3 y4 y5 y6 y7 y8 y9 y10)) ∧ (∀ y0 y1 y2 y3 y4 y5 y6 y7 y8 y9 y10 y11 y12, LeO (w08_TreeBelow.l1 k y0 y1 y2 y3 y4 y5 y6 y7 y8 y9 y10 y11 y12) (w08_TreeBelow.l1 (k + 1) y0 y1 y2 y3 y4 y5 y6 y7 y8 y9 y10 y11 y12)) ∧ (∀ y0 y1 y2 y3 y4 y5 y6 y7 y8 y9 y10 y11 y12 y13 y14, LeO (w08_TreeBelow.j3 k y0 y1 y2 y3 y4 y5 y6 y7 y8 y9 y10 y11 y12 y13 y14) (w08_TreeBelow.j3 (k + 1) y0 y1 y2 y3 y4 y5 y6 y7 y8 y9 y10 y11 y12 y13 y14)) ∧ (∀ y0 y1 y2 y3 y4 y5 y6 y7 y8 y9 y10, LeO (w08_TreeBelow.l2 k y0 y1 y2 y3 y4 y5 y6 y7 y8 y9 y10) (w08_TreeBelow.l2 (k + 1) y0 y1 y2 y3 y4 y5 y6 y7 y8 y9 y10))
  | 0 => ⟨fun _ _ _ _ _ _ _ _ r h => by simp [w08_TreeBelow.l0] at h, fun _ _ _ _ _ _ _ _ _ _ _ r h => by simp [w08_TreeBelow.j1] at h, fun _ _ _ _ _ _ _ _ _ _ _ _ _ r h => by simp [w08_TreeBelow.l1] at h, fun _ _ _ _ _ _ _ _ _ _ _ _ _ _ _ r h => by simp [w08_TreeBelow.j3] at h, fun _ _ _ _ _ _ _ _ _ _ _ r h => by simp [w08_TreeBelow.l2] at h⟩
  | k + 1 => by
    obtain ⟨ih0, ih1, ih2, ih3, ih4⟩ := w08_TreeBelow.mono_l k
    refine ⟨?_, ?_, ?_, ?_, ?_⟩
    · intro y0 y1 y2 y3 y4 y5 y6 y7
      unfold w08_TreeBelow.l0
      repeat' first
      | (with_reducible exact ih0 _ _ _ _ _ _ _ _)
      | (with_reducible exact ih1 _ _ _ _ _ _ _ _ _ _ _)
      | (with_reducible exact ih2 _ _ _ _ _ _ _ _ _ _ _ _ _)
      | (with_reducible exact ih3 _ _ _ _ _ _ _ _ _ _ _ _ _ _ _)
      | (with_reducible exact ih4 _ _ _ _ _ _ _ _ _ _ _)
      | (with_reducible exact w08_head.mono _)
      | (with_reducible exact w08_in.mono _ _ _)
      | (with_reducible exact w08_usable.mono _ _ _ _ _ _)
      | (with_reducible exact LeO.refl _)
      | (with_reducible exact LeO.none _)
      | (with_reducible refine LeO.ite ?_ ?_)
      | (with_reducible refine LeO.bind ?_ (fun _ => ?_))
      | exact ih0 _ _ _ _ _ _ _ _
      | exact ih1 _ _ _ _ _ _ _ _ _ _ _
      | exact ih2 _ _ _ _ _ _ _ _ _ _ _ _ _
      | exact ih3 _ _ _ _ _ _ _ _ _ _ _ _ _ _ _
      | exact ih4 _ _ _ _ _ _ _ _ _ _ _
      | exact w08_head.mono _
      | exact w08_in.mono _ _ _
      | exact w08_usable.mono _ _ _ _ _ _
      | exact LeO.none _
      | refine LeO.ite ?_ ?_
      | refine LeO.bind ?_ (fun _ => ?_)
    · intro y0 y1 y2 y3 y4 y5 y6 y7 y8 y9 y10
      unfold w08_TreeBelow.j1
      repeat' first
      | (with_reducible exact ih0 _ _ _ _ _ _ _ _)
      | (with_reducible exact ih1 _ _ _ _ _ _ _ _ _ _ _)
      | (with_reducible exact ih2 _ _ _ _ _ _ _ _ _ _ _ _ _)
      | (with_reducible exact ih3 _ _ _ _ _ _ _ _ _ _ _ _ _ _ _)
      | (with_reducible exact ih4 _ _ _ _ _ _ _ _ _ _ _)
      | (with_reducible exact w08_head.mono _)
      | (with_reducible exact w08_in.mono _ _ _)
      | (with_reducible exact w08_usable.mono _ _ _ _ _ _)
      | (with_reducible exact LeO.refl _)
      | (with_reducible exact LeO.none _)
      | (with_reducible refine LeO.ite ?_ ?_)
      | (with_reducible refine LeO.bind ?_ (fun _ => ?_))
      | exact ih0 _ _ _ _ _ _ _ _
      | exact ih1 _ _ _ _ _ _ _ _ _ _ _
      | exact ih2 _ _ _ _ _ _ _ _ _ _ _ _ _
      | exact ih3 _ _ _ _ _ _ _ _ _ _ _ _ _ _ _
      | exact ih4 _ _ _ _ _ _ _ _ _ _ _
      | exact w08_head.mono _
      | exact w08_in.mono _ _ _
      | exact w08_usable.mono _ _ _ _ _ _
      | exact LeO.none _
      | refine LeO.ite ?_ ?_
      | refine LeO.bind ?_ (fun _ => ?_)
    · intro y0 y1 y2 y3 y4 y5 y6 y7 y8 y9 y10 y11 y12
      unfold w08_TreeBelow.l1
      repeat' first
      | (with_reducible exact ih0 _ _ _ _ _ _ _ _)
      | (with_reducible exact ih1 _ _ _ _ _ _ _ _ _ _ _)
      | (with_reducible exact ih2 _ _ _ _ _ _ _ _ _ _ _ _ _)
      | (with_reducible exact ih3 _ _ _ _ _ _ _ _ _ _ _ _ _ _ _)
      | (with_reducible exact ih4 _ _ _ _ _ _ _ _ _ _ _)
      | (with_reducible exact w08_head.mono _)
      | (with_reducible exact w08_in.mono _ _ _)
      | (with_reducible exact w08_usable.mono _ _ _ _ _ _)
      | (with_reducible exact LeO.refl _)
      | (with_reducible exact LeO.none _)
      | (with_reducible refine LeO.ite ?_ ?_)
      | (with_reducible refine LeO.bind ?_ (fun _ => ?_))
      | exact ih0 _ _ _ _ _ _ _ _
      | exact ih1 _ _ _ _ _ _ _ _ _ _ _
      | exact ih2 _ _ _ _ _ _ _ _ _ _ _ _ _
      | exact ih3 _ _ _ _ _ _ _ _ _ _ _ _ _ _ _
      | exact ih4 _ _ _ _ _ _ _ _ _ _ _
      | exact w08_head.mono _
      | exact w08_in.mono _ _ _
      | exact w08_usable.mono _ _ _ _ _ _
      | exact LeO.none _
      | refine LeO.ite ?_ ?_
      | refine LeO.bind ?_ (fun _ => ?_)
    · intro y0 y1 y2 y3 y4 y5 y6 y7 y8 y9 y10 y11 y12 y13 y14
      unfold w08_TreeBelow.j3
      repeat' first
      | (with_reducible exact ih0 _ _ _ _ _ _ _ _)
      | (with_reducible exact ih1 _ _ _ _ _ _ _ _ _ _ _)
      | (with_reducible exact ih2 _ _ _ _ _ _ _ _ _ _ _ _ _)
      | (with_reducible exact ih3 _ _ _ _ _ _ _ _ _ _ _ _ _ _ _)
      | (with_reducible exact ih4 _ _ _ _ _ _ _ _ _ _ _)
      | (with_reducible exact w08_head.mono _)
      | (with_reducible exact w08_in.mono _ _ _)
      | (with_reducible exact w08_usable.mono _ _ _ _ _ _)
      | (with_reducible exact LeO.refl _)
      | (with_reducible exact LeO.none _)
      | (with_reducible refine LeO.ite ?_ ?_)
      | (with_reducible refine LeO.bind ?_ (fun _ => ?_))
      | exact ih0 _ _ _ _ _ _ _ _
      | exact ih1 _ _ _ _ _ _ _ _ _ _ _
      | exact ih2 _ _ _ _ _ _ _ _ _ _ _ _ _
      | exact ih3 _ _ _ _ _ _ _ _ _ _ _ _ _ _ _
      | exact ih4 _ _ _ _ _ _ _ _ _ _ _
      | exact w08_head.mono _
      | exact w08_in.mono _ _ _
      | exact w08_usable.mono _ _ _ _ _ _
      | exact LeO.none _
      | refine LeO.ite ?_ ?_
      | refine LeO.bind ?_ (fun _ => ?_)
    · intro y0 y1 y2 y3 y4 y5 y6 y7 y8 y9 y10
      unfold w08_TreeBelow.l2
      repeat' first
      | (with_reducible exact ih0 _ _ _ _ _ _ _ _)
      | (with_reducible exact ih1 _ _ _ _ _ _ _ _ _ _ _)
      | (with_reducible exact ih2 _ _ _ _ _ _ _ _ _ _ _ _ _)
      | (with_reducible exact ih3 _ _ _ _ _ _ _ _ _ _ _ _ _ _ _)
      | (with_reducible exact ih4 _ _ _ _ _ _ _ _ _ _ _)
      | (with_reducible exact w08_head.mono _)
      | (with_reducible exact w08_in.mono _ _ _)
      | (with_reducible exact w08_usable.mono _ _ _ _ _ _)
      | (with_reducible exact LeO.refl _)
      | (with_reducible exact LeO.none _)
      | (with_reducible refine LeO.ite ?_ ?_)
      | (with_reducible refine LeO.bind ?_ (fun _ => ?_))
      | exact ih0 _ _ _ _ _ _ _ _
      | exact ih1 _ _ _ _ _ _ _ _ _ _ _
      | exact ih2 _ _ _ _ _ _ _ _ _ _ _ _ _
      | exact ih3 _ _ _ _ _ _ _ _ _ _ _ _ _ _ _
      | exact ih4 _ _ _ _ _ _ _ _ _ _ _
      | exact w08_head.mono _
      | exact w08_in.mono _ _ _
      | exact w08_usable.mono _ _ _ _ _ _
      | exact LeO.none _
      | refine LeO.ite ?_ ?_
      | refine LeO.bind ?_ (fun _ => ?_)
theorem w08_TreeBelow.mono : ∀ a0 a1 a2 a3 a4 k, LeO (w08_TreeBelow.f k a0 a1 a2 a3 a4) (w08_TreeBelow.f (k + 1) a0 a1 a2 a3 a4) := by
  intro a0 a1 a2 a3 a4 k
  obtain ⟨ih0, ih1, ih2, ih3, ih4⟩ := w08_TreeBelow.mono_l k
  unfold w08_TreeBelow.f
  repeat' first
      | (with_reducible exact ih0 _ _ _ _ _ _ _ _)
      | (with_reducible exact ih1 _ _ _ _ _ _ _ _ _ _ _)
      | (with_reducible exact ih2 _ _ _ _ _ _ _ _ _ _ _ _ _)
      | (with_reducible exact ih3 _ _ _ _ _ _ _ _ _ _ _ _ _ _ _)
      | (with_reducible exact ih4 _ _ _ _ _ _ _ _ _ _ _)
      | (with_reducible exact w08_head.mono _)
      | (with_reducible exact w08_in.mono _ _ _)
      | (with_reducible exact w08_usable.mono _ _ _ _ _ _)
      | (with_reducible exact LeO.refl _)
      | (with_reducible exact LeO.none _)
      | (with_reducible refine LeO.ite ?_ ?_)
      | (with_reducible refine LeO.bind ?_ (fun _ => ?_))
      | exact ih0 _ _ _ _ _ _ _ _
      | exact ih1 _ _ _ _ _ _ _ _ _ _ _
      | exact ih2 _ _ _ _ _ _ _ _ _ _ _ _ _
      | exact ih3 _ _ _ _ _ _ _ _ _ _ _ _ _ _ _
      | exact ih4 _ _ _ _ _ _ _ _ _ _ _
      | exact w08_head.mono _
      | exact w08_in.mono _ _ _
      | exact w08_usable.mono _ _ _ _ _ _
      | exact LeO.none _
      | refine LeO.ite ?_ ?_
      | refine LeO.bind ?_ (fun _ => ?_)
set_option maxHeartbeats 8000000 in
set_option maxRecDepth 100000 in
theorem w08_TreeBelow.calls (k : Nat) (A0_0 : Option Addr) (c0_0 : Nat) (l0_0 : List (S48)) (A0_1 : Option Addr) (c0_1 : Nat) (l0_1 : List (S62)) (A0_2 : Option Addr) (c0_2 : Nat) (l0_2 : List (S84)) (A0_3 : Option Addr) (c0_3 : Nat) (l0_3 : List (S42)) (A0_4 : Option Addr) (c0_4 : Nat) (l0_4 : List (S87)) (r : Bool) (w : World) (hr0_0 : Kd.C k48 w A0_0 l0_0.length l0_0) (hc0_0 : l0_0.length ≤ c0_0) (hr0_1 : Kd.C k62 w A0_1 l0_1.length l0_1) (hc0_1 : l0_1.length ≤ c0_1) (hr0_2 : Kd.C k84 w A0_2 l0_2.length l0_2) (hc0_2 : l0_2.length ≤ c0_2) (hr0_3 : Kd.C k42 w A0_3 l0_3.length l0_3) (hc0_3 : l0_3.length ≤ c0_3) (hr0_4 : Kd.C k87 w A0_4 l0_4.length l0_4) (hc0_4 : l0_4.length ≤ c0_4) (h : w08_TreeBelow.f k l0_0 l0_1 l0_2 l0_3 l0_4 = some r) :
    Calls Try.prog 5 #[.agg #[.slice A0_0 l0_0.length c0_0, .slice A0_1 l0_1.length c0_1, .slice A0_2 l0_2.length c0_2, .slice A0_3 l0_3.length c0_3, .slice A0_4 l0_4.length c0_4]] w fun e w' => e = .returned (.bool r) ∧ Below w.heap.size w w' := by
 have hu28 := Try.underlying28
 have HR0_0 := Aside0.mk hr0_0
 have HC0_0 := Aside0.mk hc0_0
 clear hr0_0 hc0_0
 have HR0_1 := Aside0.mk hr0_1
 have HC0_1 := Aside0.mk hc0_1
 clear hr0_1 hc0_1
 have HR0_2 := Aside0.mk hr0_2
 have HC0_2 := Aside0.mk hc0_2
 clear hr0_2 hc0_2
 have HR0_3 := Aside0.mk hr0_3
 have HC0_3 := Aside0.mk hc0_3
 clear hr0_3 hc0_3
 have HR0_4 := Aside0.mk hr0_4
 have HC0_4 := Aside0.mk hc0_4
 clear hr0_4 hc0_4
 have HB := Aside0.mk (Below.refl w.heap.size w)
 have H : ((w08_head.f k).bind fun t460 => ((w08_usable.f k l0_0 l0_1 l0_2 l0_3 l0_4).bind fun t461 => (if t461 = true then (w08_TreeBelow.l0 k t460 (l0_0.length : Int) 0 l0_0 l0_1 l0_2 l0_3 l0_4) else (some t460)))) = some r := h
 clear h
 replace H := Option.bind_eq_some_iff.mp H
 obtain ⟨t460, A20, H⟩ := H
 replace H : ((w08_usable.f k l0_0 l0_1 l0_2 l0_3 l0_4).bind fun t461 => (if t461 = true then (w08_TreeBelow.l0 k t460 (l0_0.length : Int) 0 l0_0 l0_1 l0_2 l0_3 l0_4) else (some t460))) = some r := H
 have A2 := Aside0.mk A20
 clear A20
 replace H := Option.bind_eq_some_iff.mp H
 obtain ⟨t461, A30, H⟩ := H
 replace H : (if t461 = true then (w08_TreeBelow.l0 k t460 (l0_0.length : Int) 0 l0_0 l0_1 l0_2 l0_3 l0_4) else (some t460)) = some r := H
 have A3 := Aside0.mk A30
 clear A30
 by_cases c4 : t461 = true
 rotate_left
 ·replace c4 := Bool.eq_false_iff.mpr c4
  subst c4
  have H1 : (some t460) = some r := by rw [if_neg (show ¬ (false = true) by decide)] at H; exact H
  clear H
  have H := H1
  clear H1
  obtain rfl := Option.some.inj H
  go_enter Try.func5, Try.ntmps5
  go_wp2_with (first | ((with_reducible refine gate_dst (N := 1) rfl ?_); (try (refine gate_guard (by rfl) ?_; dsimp only)); refine box_event ?hg (N := 1) ?hd (cs := #[.slice A0_0 l0_0.length c0_0, .slice A0_1 l0_1.length c0_1, .slice A0_2 l0_2.length c0_2, .slice A0_3 l0_3.length c0_3, .slice A0_4 l0_4.length c0_4]) (t := 28) ?hr ?_; (case hd => rfl); (case hg => rfl); (case hr => first | (go_simp; done) | (go_simp; rfl)); intro gb459 hg w47 hbox hb; have n0_ := Aside0.mk (below_step (kB HB) hb); have n1_ := Aside0.mk (hbox); have n2_ := Aside0.mk ((by rw [hg]; exact (below_size (kB HB)) : w.heap.size ≤ gb459)); have n3_ := Aside0.mk ((by rw [hg]; exact (below_size (kB HB)) : w.heap.size ≤ gb459)); clear HB; have HB := n0_; have BK459 := n1_; have GW459 := n2_; have GE459 := n3_; clear n0_ n1_ n2_ n3_; clear hb hbox hg) | (go_at_call 10; (with_reducible refine (w08_head.calls k  t460 _ A2.out).mono ?_); rintro e w48 ⟨rfl, hb⟩; have n0_ := Aside0.mk (blk_below (g := gb459) (o := .cells #[.slice A0_0 l0_0.length c0_0, .slice A0_1 l0_1.length c0_1, .slice A0_2 l0_2.length c0_2, .slice A0_3 l0_3.length c0_3, .slice A0_4 l0_4.length c0_4] 28 (0, 0)) (kK BK459) hb); have n1_ := Aside0.mk (below_step (kB1 HB GE459) hb); clear BK459; clear HB; have BK459 := n0_; have HB := n1_; clear n0_ n1_; (try clear hb); (try clear hb2); (try clear hk); (try clear hi); have hcz49_0 : w48.cell? ⟨gb459, 0, none⟩ = some (.slice A0_0 l0_0.length c0_0) := (blk_cell BK459.out 0).trans rfl; have hcz49_1 : w48.cell? ⟨gb459, 1, none⟩ = some (.slice A0_1 l0_1.length c0_1) := (blk_cell BK459.out 1).trans rfl; have hcz49_2 : w48.cell? ⟨gb459, 2, none⟩ = some (.slice A0_2 l0_2.length c0_2) := (blk_cell BK459.out 2).trans rfl; have hcz49_3 : w48.cell? ⟨gb459, 3, none⟩ = some (.slice A0_3 l0_3.length c0_3) := (blk_cell BK459.out 3).trans rfl; have hcz49_4 : w48.cell? ⟨gb459, 4, none⟩ = some (.slice A0_4 l0_4.length c0_4) := (blk_cell BK459.out 4).trans rfl; have hfz49_0 := blk_frozen BK459.out 0; have hfz49_1 := blk_frozen BK459.out 1; have hfz49_2 := blk_frozen BK459.out 2; have hfz49_3 := blk_frozen BK459.out 3; have hfz49_4 := blk_frozen BK459.out 4) | (go_at_call 20; (with_reducible refine (w08_usable.calls k _ _ l0_0 _ _ l0_1 _ _ l0_2 _ _ l0_3 _ _ l0_4 false _ ?side1 ?side2 ?side3 ?side4 ?side5 ?side6 ?side7 ?side8 ?side9 ?side10 A3.out).mono ?_); (case side1 => repeat (first | exact (Kd.C_below HR0_0.out HB.out) | (with_reducible refine Kd.C_alloc ?_ _) | (with_reducible refine Kd.C_drewN ?_ _) | (with_reducible refine Kd.C_drew ?_))); (case side2 => exact HC0_0.out); (case side3 => repeat (first | exact (Kd.C_below HR0_1.out HB.out) | (with_reducible refine Kd.C_alloc ?_ _) | (with_reducible refine Kd.C_drewN ?_ _) | (with_reducible refine Kd.C_drew ?_))); (case side4 => exact HC0_1.out); (case side5 => repeat (first | exact (Kd.C_below HR0_2.out HB.out) | (with_reducible refine Kd.C_alloc ?_ _) | (with_reducible refine Kd.C_drewN ?_ _) | (with_reducible refine Kd.C_drew ?_))); (case side6 => exact HC0_2.out); (case side7 => repeat (first | exact (Kd.C_below HR0_3.out HB.out) | (with_reducible refine Kd.C_alloc ?_ _) | (with_reducible refine Kd.C_drewN ?_ _) | (with_reducible refine Kd.C_drew ?_))); (case side8 => exact HC0_3.out); (case side9 => repeat (first | exact (Kd.C_below HR0_4.out HB.out) | (with_reducible refine Kd.C_alloc ?_ _) | (with_reducible refine Kd.C_drewN ?_ _) | (with_reducible refine Kd.C_drew ?_))); (case side10 => exact HC0_4.out); rintro e w50 ⟨rfl, hb⟩; have n0_ := Aside0.mk (blk_below (g := gb459) (o := .cells #[.slice A0_0 l0_0.length c0_0, .slice A0_1 l0_1.length c0_1, .slice A0_2 l0_2.length c0_2, .slice A0_3 l0_3.length c0_3, .slice A0_4 l0_4.length c0_4] 28 (0, 0)) (kK BK459) hb); have n1_ := Aside0.mk (below_step (kB1 HB GE459) hb); clear BK459; clear HB; have BK459 := n0_; have HB := n1_; clear n0_ n1_; (try clear hb); (try clear hb2); (try clear hk); (try clear hi)))
  repeat (go_quiet (first | (go_at_call 10; (with_reducible refine (w08_head.calls k  t460 _ A2.out).mono ?_); rintro e w48 ⟨rfl, hb⟩; have n0_ := Aside0.mk (blk_below (g := gb459) (o := .cells #[.slice A0_0 l0_0.length c0_0, .slice A0_1 l0_1.length c0_1, .slice A0_2 l0_2.length c0_2, .slice A0_3 l0_3.length c0_3, .slice A0_4 l0_4.length c0_4] 28 (0, 0)) (kK BK459) hb); have n1_ := Aside0.mk (below_step (kB1 HB GE459) hb); clear BK459; clear HB; have BK459 := n0_; have HB := n1_; clear n0_ n1_; (try clear hb); (try clear hb2); (try clear hk); (try clear hi); have hcz49_0 : w48.cell? ⟨gb459, 0, none⟩ = some (.slice A0_0 l0_0.length c0_0) := (blk_cell BK459.out 0).trans rfl; have hcz49_1 : w48.cell? ⟨gb459, 1, none⟩ = some (.slice A0_1 l0_1.length c0_1) := (blk_cell BK459.out 1).trans rfl; have hcz49_2 : w48.cell? ⟨gb459, 2, none⟩ = some (.slice A0_2 l0_2.length c0_2) := (blk_cell BK459.out 2).trans rfl; have hcz49_3 : w48.cell? ⟨gb459, 3, none⟩ = some (.slice A0_3 l0_3.length c0_3) := (blk_cell BK459.out 3).trans rfl; have hcz49_4 : w48.cell? ⟨gb459, 4, none⟩ = some (.slice A0_4 l0_4.length c0_4) := (blk_cell BK459.out 4).trans rfl; have hfz49_0 := blk_frozen BK459.out 0; have hfz49_1 := blk_frozen BK459.out 1; have hfz49_2 := blk_frozen BK459.out 2; have hfz49_3 := blk_frozen BK459.out 3; have hfz49_4 := blk_frozen BK459.out 4) | (go_at_call 20; (with_reducible refine (w08_usable.calls k _ _ l0_0 _ _ l0_1 _ _ l0_2 _ _ l0_3 _ _ l0_4 false _ ?side1 ?side2 ?side3 ?side4 ?side5 ?side6 ?side7 ?side8 ?side9 ?side10 A3.out).mono ?_); (case side1 => repeat (first | exact (Kd.C_below HR0_0.out HB.out) | (with_reducible refine Kd.C_alloc ?_ _) | (with_reducible refine Kd.C_drewN ?_ _) | (with_reducible refine Kd.C_drew ?_))); (case side2 => exact HC0_0.out); (case side3 => repeat (first | exact (Kd.C_below HR0_1.out HB.out) | (with_reducible refine Kd.C_alloc ?_ _) | (with_reducible refine Kd.C_drewN ?_ _) | (with_reducible refine Kd.C_drew ?_))); (case side4 => exact HC0_1.out); (case side5 => repeat (first | exact (Kd.C_below HR0_2.out HB.out) | (with_reducible refine Kd.C_alloc ?_ _) | (with_reducible refine Kd.C_drewN ?_ _) | (with_reducible refine Kd.C_drew ?_))); (case side6 => exact HC0_2.out); (case side7 => repeat (first | exact (Kd.C_below HR0_3.out HB.out) | (with_reducible refine Kd.C_alloc ?_ _) | (with_reducible refine Kd.C_drewN ?_ _) | (with_reducible refine Kd.C_drew ?_))); (case side8 => exact HC0_3.out); (case side9 => repeat (first | exact (Kd.C_below HR0_4.out HB.out) | (with_reducible refine Kd.C_alloc ?_ _) | (with_reducible refine Kd.C_drewN ?_ _) | (with_reducible refine Kd.C_drew ?_))); (case side10 => exact HC0_4.out); rintro e w50 ⟨rfl, hb⟩; have n0_ := Aside0.mk (blk_below (g := gb459) (o := .cells #[.slice A0_0 l0_0.length c0_0, .slice A0_1 l0_1.length c0_1, .slice A0_2 l0_2.length c0_2, .slice A0_3 l0_3.length c0_3, .slice A0_4 l0_4.length c0_4] 28 (0, 0)) (kK BK459) hb); have n1_ := Aside0.mk (below_step (kB1 HB GE459) hb); clear BK459; clear HB; have BK459 := n0_; have HB := n1_; clear n0_ n1_; (try clear hb); (try clear hb2); (try clear hk); (try clear hi))); try go_wp2_with (first | (go_at_call 10; (with_reducible refine (w08_head.calls k  t460 _ A2.out).mono ?_); rintro e w48 ⟨rfl, hb⟩; have n0_ := Aside0.mk (blk_below (g := gb459) (o := .cells #[.slice A0_0 l0_0.length c0_0, .slice A0_1 l0_1.length c0_1, .slice A0_2 l0_2.length c0_2, .slice A0_3 l0_3.length c0_3, .slice A0_4 l0_4.length c0_4] 28 (0, 0)) (kK BK459) hb); have n1_ := Aside0.mk (below_step (kB1 HB GE459) hb); clear BK459; clear HB; have BK459 := n0_; have HB := n1_; clear n0_ n1_; (try clear hb); (try clear hb2); (try clear hk); (try clear hi); have hcz49_0 : w48.cell? ⟨gb459, 0, none⟩ = some (.slice A0_0 l0_0.length c0_0) := (blk_cell BK459.out 0).trans rfl; have hcz49_1 : w48.cell? ⟨gb459, 1, none⟩ = some (.slice A0_1 l0_1.length c0_1) := (blk_cell BK459.out 1).trans rfl; have hcz49_2 : w48.cell? ⟨gb459, 2, none⟩ = some (.slice A0_2 l0_2.length c0_2) := (blk_cell BK459.out 2).trans rfl; have hcz49_3 : w48.cell? ⟨gb459, 3, none⟩ = some (.slice A0_3 l0_3.length c0_3) := (blk_cell BK459.out 3).trans rfl; have hcz49_4 : w48.cell? ⟨gb459, 4, none⟩ = some (.slice A0_4 l0_4.length c0_4) := (blk_cell BK459.out 4).trans rfl; have hfz49_0 := blk_frozen BK459.out 0; have hfz49_1 := blk_frozen BK459.out 1; have hfz49_2 := blk_frozen BK459.out 2; have hfz49_3 := blk_frozen BK459.out 3; have hfz49_4 := blk_frozen BK459.out 4) | (go_at_call 20; (with_reducible refine (w08_usable.calls k _ _ l0_0 _ _ l0_1 _ _ l0_2 _ _ l0_3 _ _ l0_4 false _ ?side1 ?side2 ?side3 ?side4 ?side5 ?side6 ?side7 ?side8 ?side9 ?side10 A3.out).mono ?_); (case side1 => repeat (first | exact (Kd.C_below HR0_0.out HB.out) | (with_reducible refine Kd.C_alloc ?_ _) | (with_reducible refine Kd.C_drewN ?_ _) | (with_reducible refine Kd.C_drew ?_))); (case side2 => exact HC0_0.out); (case side3 => repeat (first | exact (Kd.C_below HR0_1.out HB.out) | (with_reducible refine Kd.C_alloc ?_ _) | (with_reducible refine Kd.C_drewN ?_ _) | (with_reducible refine Kd.C_drew ?_))); (case side4 => exact HC0_1.out); (case side5 => repeat (first | exact (Kd.C_below HR0_2.out HB.out) | (with_reducible refine Kd.C_alloc ?_ _) | (with_reducible refine Kd.C_drewN ?_ _) | (with_reducible refine Kd.C_drew ?_))); (case side6 => exact HC0_2.out); (case side7 => repeat (first | exact (Kd.C_below HR0_3.out HB.out) | (with_reducible refine Kd.C_alloc ?_ _) | (with_reducible refine Kd.C_drewN ?_ _) | (with_reducible refine Kd.C_drew ?_))); (case side8 => exact HC0_3.out); (case side9 => repeat (first | exact (Kd.C_below HR0_4.out HB.out) | (with_reducible refine Kd.C_alloc ?_ _) | (with_reducible refine Kd.C_drewN ?_ _) | (with_reducible refine Kd.C_drew ?_))); (case side10 => exact HC0_4.out); rintro e w50 ⟨rfl, hb⟩; have n0_ := Aside0.mk (blk_below (g := gb459) (o := .cells #[.slice A0_0 l0_0.length c0_0, .slice A0_1 l0_1.length c0_1, .slice A0_2 l0_2.length c0_2, .slice A0_3 l0_3.length c0_3, .slice A0_4 l0_4.length c0_4] 28 (0, 0)) (kK BK459) hb); have n1_ := Aside0.mk (below_step (kB1 HB GE459) hb); clear BK459; clear HB; have BK459 := n0_; have HB := n1_; clear n0_ n1_; (try clear hb); (try clear hb2); (try clear hk); (try clear hi))))
  go_ret
  exact ⟨by first | rfl | (simp [errW_none, errW_some] <;> rfl) | (simp [*, errW_none, errW_some] <;> rfl), kB1 HB GE459⟩
 subst c4
 have H1 : (w08_TreeBelow.l0 k t460 (l0_0.length : Int) 0 l0_0 l0_1 l0_2 l0_3 l0_4) = some r := by rw [if_pos rfl] at H; exact H
 clear H
 have H := H1
 clear H1
 have H' := Aside0.mk H
 clear H
 go_enter Try.func5, Try.ntmps5
 go_wp2_with (first | ((with_reducible refine gate_dst (N := 1) rfl ?_); (try (refine gate_guard (by rfl) ?_; dsimp only)); refine box_event ?hg (N := 1) ?hd (cs := #[.slice A0_0 l0_0.length c0_0, .slice A0_1 l0_1.length c0_1, .slice A0_2 l0_2.length c0_2, .slice A0_3 l0_3.length c0_3, .slice A0_4 l0_4.length c0_4]) (t := 28) ?hr ?_; (case hd => rfl); (case hg => rfl); (case hr => first | (go_simp; done) | (go_simp; rfl)); intro gb459 hg w5 hbox hb; have n0_ := Aside0.mk (below_step (kB HB) hb); have n1_ := Aside0.mk (hbox); have n2_ := Aside0.mk ((by rw [hg]; exact (below_size (kB HB)) : w.heap.size ≤ gb459)); have n3_ := Aside0.mk ((by rw [hg]; exact (below_size (kB HB)) : w.heap.size ≤ gb459)); clear HB; have HB := n0_; have BK459 := n1_; have GW459 := n2_; have GE459 := n3_; clear n0_ n1_ n2_ n3_; clear hb hbox hg) | (go_at_call 10; (with_reducible refine (w08_head.calls k  t460 _ A2.out).mono ?_); rintro e w6 ⟨rfl, hb⟩; have n0_ := Aside0.mk (blk_below (g := gb459) (o := .cells #[.slice A0_0 l0_0.length c0_0, .slice A0_1 l0_1.length c0_1, .slice A0_2 l0_2.length c0_2, .slice A0_3 l0_3.length c0_3, .slice A0_4 l0_4.length c0_4] 28 (0, 0)) (kK BK459) hb); have n1_ := Aside0.mk (below_step (kB1 HB GE459) hb); clear BK459; clear HB; have BK459 := n0_; have HB := n1_; clear n0_ n1_; (try clear hb); (try clear hb2); (try clear hk); (try clear hi); have hcz7_0 : w6.cell? ⟨gb459, 0, none⟩ = some (.slice A0_0 l0_0.length c0_0) := (blk_cell BK459.out 0).trans rfl; have hcz7_1 : w6.cell? ⟨gb459, 1, none⟩ = some (.slice A0_1 l0_1.length c0_1) := (blk_cell BK459.out 1).trans rfl; have hcz7_2 : w6.cell? ⟨gb459, 2, none⟩ = some (.slice A0_2 l0_2.length c0_2) := (blk_cell BK459.out 2).trans rfl; have hcz7_3 : w6.cell? ⟨gb459, 3, none⟩ = some (.slice A0_3 l0_3.length c0_3) := (blk_cell BK459.out 3).trans rfl; have hcz7_4 : w6.cell? ⟨gb459, 4, none⟩ = some (.slice A0_4 l0_4.length c0_4) := (blk_cell BK459.out 4).trans rfl; have hfz7_0 := blk_frozen BK459.out 0; have hfz7_1 := blk_frozen BK459.out 1; have hfz7_2 := blk_frozen BK459.out 2; have hfz7_3 := blk_frozen BK459.out 3; have hfz7_4 := blk_frozen BK459.out 4) | (go_at_call 20; (with_reducible refine (w08_usable.calls k _ _ l0_0 _ _ l0_1 _ _ l0_2 _ _ l0_3 _ _ l0_4 true _ ?side1 ?side2 ?side3 ?side4 ?side5 ?side6 ?side7 ?side8 ?side9 ?side10 A3.out).mono ?_); (case side1 => repeat (first | exact (Kd.C_below HR0_0.out HB.out) | (with_reducible refine Kd.C_alloc ?_ _) | (with_reducible refine Kd.C_drewN ?_ _) | (with_reducible refine Kd.C_drew ?_))); (case side2 => exact HC0_0.out); (case side3 => repeat (first | exact (Kd.C_below HR0_1.out HB.out) | (with_reducible refine Kd.C_alloc ?_ _) | (with_reducible refine Kd.C_drewN ?_ _) | (with_reducible refine Kd.C_drew ?_))); (case side4 => exact HC0_1.out); (case side5 => repeat (first | exact (Kd.C_below HR0_2.out HB.out) | (with_reducible refine Kd.C_alloc ?_ _) | (with_reducible refine Kd.C_drewN ?_ _) | (with_reducible refine Kd.C_drew ?_))); (case side6 => exact HC0_2.out); (case side7 => repeat (first | exact (Kd.C_below HR0_3.out HB.out) | (with_reducible refine Kd.C_alloc ?_ _) | (with_reducible refine Kd.C_drewN ?_ _) | (with_reducible refine Kd.C_drew ?_))); (case side8 => exact HC0_3.out); (case side9 => repeat (first | exact (Kd.C_below HR0_4.out HB.out) | (with_reducible refine Kd.C_alloc ?_ _) | (with_reducible refine Kd.C_drewN ?_ _) | (with_reducible refine Kd.C_drew ?_))); (case side10 => exact HC0_4.out); rintro e w8 ⟨rfl, hb⟩; have n0_ := Aside0.mk (blk_below (g := gb459) (o := .cells #[.slice A0_0 l0_0.length c0_0, .slice A0_1 l0_1.length c0_1, .slice A0_2 l0_2.length c0_2, .slice A0_3 l0_3.length c0_3, .slice A0_4 l0_4.length c0_4] 28 (0, 0)) (kK BK459) hb); have n1_ := Aside0.mk (below_step (kB1 HB GE459) hb); clear BK459; clear HB; have BK459 := n0_; have HB := n1_; clear n0_ n1_; (try clear hb); (try clear hb2); (try clear hk); (try clear hi); have hcz9_0 : w8.cell? ⟨gb459, 0, none⟩ = some (.slice A0_0 l0_0.length c0_0) := (blk_cell BK459.out 0).trans rfl; have hcz9_1 : w8.cell? ⟨gb459, 1, none⟩ = some (.slice A0_1 l0_1.length c0_1) := (blk_cell BK459.out 1).trans rfl; have hcz9_2 : w8.cell? ⟨gb459, 2, none⟩ = some (.slice A0_2 l0_2.length c0_2) := (blk_cell BK459.out 2).trans rfl; have hcz9_3 : w8.cell? ⟨gb459, 3, none⟩ = some (.slice A0_3 l0_3.length c0_3) := (blk_cell BK459.out 3).trans rfl; have hcz9_4 : w8.cell? ⟨gb459, 4, none⟩ = some (.slice A0_4 l0_4.length c0_4) := (blk_cell BK459.out 4).trans rfl; have hfz9_0 := blk_frozen BK459.out 0; have hfz9_1 := blk_frozen BK459.out 1; have hfz9_2 := blk_frozen BK459.out 2; have hfz9_3 := blk_frozen BK459.out 3; have hfz9_4 := blk_frozen BK459.out 4))
 repeat (go_quiet (first | (go_at_call 10; (with_reducible refine (w08_head.calls k  t460 _ A2.out).mono ?_); rintro e w6 ⟨rfl, hb⟩; have n0_ := Aside0.mk (blk_below (g := gb459) (o := .cells #[.slice A0_0 l0_0.length c0_0, .slice A0_1 l0_1.length c0_1, .slice A0_2 l0_2.length c0_2, .slice A0_3 l0_3.length c0_3, .slice A0_4 l0_4.length c0_4] 28 (0, 0)) (kK BK459) hb); have n1_ := Aside0.mk (below_step (kB1 HB GE459) hb); clear BK459; clear HB; have BK459 := n0_; have HB := n1_; clear n0_ n1_; (try clear hb); (try clear hb2); (try clear hk); (try clear hi); have hcz7_0 : w6.cell? ⟨gb459, 0, none⟩ = some (.slice A0_0 l0_0.length c0_0) := (blk_cell BK459.out 0).trans rfl; have hcz7_1 : w6.cell? ⟨gb459, 1, none⟩ = some (.slice A0_1 l0_1.length c0_1) := (blk_cell BK459.out 1).trans rfl; have hcz7_2 : w6.cell? ⟨gb459, 2, none⟩ = some (.slice A0_2 l0_2.length c0_2) := (blk_cell BK459.out 2).trans rfl; have hcz7_3 : w6.cell? ⟨gb459, 3, none⟩ = some (.slice A0_3 l0_3.length c0_3) := (blk_cell BK459.out 3).trans rfl; have hcz7_4 : w6.cell? ⟨gb459, 4, none⟩ = some (.slice A0_4 l0_4.length c0_4) := (blk_cell BK459.out 4).trans rfl; have hfz7_0 := blk_frozen BK459.out 0; have hfz7_1 := blk_frozen BK459.out 1; have hfz7_2 := blk_frozen BK459.out 2; have hfz7_3 := blk_frozen BK459.out 3; have hfz7_4 := blk_frozen BK459.out 4) | (go_at_call 20; (with_reducible refine (w08_usable.calls k _ _ l0_0 _ _ l0_1 _ _ l0_2 _ _ l0_3 _ _ l0_4 true _ ?side1 ?side2 ?side3 ?side4 ?side5 ?side6 ?side7 ?side8 ?side9 ?side10 A3.out).mono ?_); (case side1 => repeat (first | exact (Kd.C_below HR0_0.out HB.out) | (with_reducible refine Kd.C_alloc ?_ _) | (with_reducible refine Kd.C_drewN ?_ _) | (with_reducible refine Kd.C_drew ?_))); (case side2 => exact HC0_0.out); (case side3 => repeat (first | exact (Kd.C_below HR0_1.out HB.out) | (with_reducible refine Kd.C_alloc ?_ _) | (with_reducible refine Kd.C_drewN ?_ _) | (with_reducible refine Kd.C_drew ?_))); (case side4 => exact HC0_1.out); (case side5 => repeat (first | exact (Kd.C_below HR0_2.out HB.out) | (with_reducible refine Kd.C_alloc ?_ _) | (with_reducible refine Kd.C_drewN ?_ _) | (with_reducible refine Kd.C_drew ?_))); (case side6 => exact HC0_2.out); (case side7 => repeat (first | exact (Kd.C_below HR0_3.out HB.out) | (with_reducible refine Kd.C_alloc ?_ _) | (with_reducible refine Kd.C_drewN ?_ _) | (with_reducible refine Kd.C_drew ?_))); (case side8 => exact HC0_3.out); (case side9 => repeat (first | exact (Kd.C_below HR0_4.out HB.out) | (with_reducible refine Kd.C_alloc ?_ _) | (with_reducible refine Kd.C_drewN ?_ _) | (with_reducible refine Kd.C_drew ?_))); (case side10 => exact HC0_4.out); rintro e w8 ⟨rfl, hb⟩; have n0_ := Aside0.mk (blk_below (g := gb459) (o := .cells #[.slice A0_0 l0_0.length c0_0, .slice A0_1 l0_1.length c0_1, .slice A0_2 l0_2.length c0_2, .slice A0_3 l0_3.length c0_3, .slice A0_4 l0_4.length c0_4] 28 (0, 0)) (kK BK459) hb); have n1_ := Aside0.mk (below_step (kB1 HB GE459) hb); clear BK459; clear HB; have BK459 := n0_; have HB := n1_; clear n0_ n1_; (try clear hb); (try clear hb2); (try clear hk); (try clear hi); have hcz9_0 : w8.cell? ⟨gb459, 0, none⟩ = some (.slice A0_0 l0_0.length c0_0) := (blk_cell BK459.out 0).trans rfl; have hcz9_1 : w8.cell? ⟨gb459, 1, none⟩ = some (.slice A0_1 l0_1.length c0_1) := (blk_cell BK459.out 1).trans rfl; have hcz9_2 : w8.cell? ⟨gb459, 2, none⟩ = some (.slice A0_2 l0_2.length c0_2) := (blk_cell BK459.out 2).trans rfl; have hcz9_3 : w8.cell? ⟨gb459, 3, none⟩ = some (.slice A0_3 l0_3.length c0_3) := (blk_cell BK459.out 3).trans rfl; have hcz9_4 : w8.cell? ⟨gb459, 4, none⟩ = some (.slice A0_4 l0_4.length c0_4) := (blk_cell BK459.out 4).trans rfl; have hfz9_0 := blk_frozen BK459.out 0; have hfz9_1 := blk_frozen BK459.out 1; have hfz9_2 := blk_frozen BK459.out 2; have hfz9_3 := blk_frozen BK459.out 3; have hfz9_4 := blk_frozen BK459.out 4)); try go_wp2_with (first | (go_at_call 10; (with_reducible refine (w08_head.calls k  t460 _ A2.out).mono ?_); rintro e w6 ⟨rfl, hb⟩; have n0_ := Aside0.mk (blk_below (g := gb459) (o := .cells #[.slice A0_0 l0_0.length c0_0, .slice A0_1 l0_1.length c0_1, .slice A0_2 l0_2.length c0_2, .slice A0_3 l0_3.length c0_3, .slice A0_4 l0_4.length c0_4] 28 (0, 0)) (kK BK459) hb); have n1_ := Aside0.mk (below_step (kB1 HB GE459) hb); clear BK459; clear HB; have BK459 := n0_; have HB := n1_; clear n0_ n1_; (try clear hb); (try clear hb2); (try clear hk); (try clear hi); have hcz7_0 : w6.cell? ⟨gb459, 0, none⟩ = some (.slice A0_0 l0_0.length c0_0) := (blk_cell BK459.out 0).trans rfl; have hcz7_1 : w6.cell? ⟨gb459, 1, none⟩ = some (.slice A0_1 l0_1.length c0_1) := (blk_cell BK459.out 1).trans rfl; have hcz7_2 : w6.cell? ⟨gb459, 2, none⟩ = some (.slice A0_2 l0_2.length c0_2) := (blk_cell BK459.out 2).trans rfl; have hcz7_3 : w6.cell? ⟨gb459, 3, none⟩ = some (.slice A0_3 l0_3.length c0_3) := (blk_cell BK459.out 3).trans rfl; have hcz7_4 : w6.cell? ⟨gb459, 4, none⟩ = some (.slice A0_4 l0_4.length c0_4) := (blk_cell BK459.out 4).trans rfl; have hfz7_0 := blk_frozen BK459.out 0; have hfz7_1 := blk_frozen BK459.out 1; have hfz7_2 := blk_frozen BK459.out 2; have hfz7_3 := blk_frozen BK459.out 3; have hfz7_4 := blk_frozen BK459.out 4) | (go_at_call 20; (with_reducible refine (w08_usable.calls k _ _ l0_0 _ _ l0_1 _ _ l0_2 _ _ l0_3 _ _ l0_4 true _ ?side1 ?side2 ?side3 ?side4 ?side5 ?side6 ?side7 ?side8 ?side9 ?side10 A3.out).mono ?_); (case side1 => repeat (first | exact (Kd.C_below HR0_0.out HB.out) | (with_reducible refine Kd.C_alloc ?_ _) | (with_reducible refine Kd.C_drewN ?_ _) | (with_reducible refine Kd.C_drew ?_))); (case side2 => exact HC0_0.out); (case side3 => repeat (first | exact (Kd.C_below HR0_1.out HB.out) | (with_reducible refine Kd.C_alloc ?_ _) | (with_reducible refine Kd.C_drewN ?_ _) | (with_reducible refine Kd.C_drew ?_))); (case side4 => exact HC0_1.out); (case side5 => repeat (first | exact (Kd.C_below HR0_2.out HB.out) | (with_reducible refine Kd.C_alloc ?_ _) | (with_reducible refine Kd.C_drewN ?_ _) | (with_reducible refine Kd.C_drew ?_))); (case side6 => exact HC0_2.out); (case side7 => repeat (first | exact (Kd.C_below HR0_3.out HB.out) | (with_reducible refine Kd.C_alloc ?_ _) | (with_reducible refine Kd.C_drewN ?_ _) | (with_reducible refine Kd.C_drew ?_))); (case side8 => exact HC0_3.out); (case side9 => repeat (first | exact (Kd.C_below HR0_4.out HB.out) | (with_reducible refine Kd.C_alloc ?_ _) | (with_reducible refine Kd.C_drewN ?_ _) | (with_reducible refine Kd.C_drew ?_))); (case side10 => exact HC0_4.out); rintro e w8 ⟨rfl, hb⟩; have n0_ := Aside0.mk (blk_below (g := gb459) (o := .cells #[.slice A0_0 l0_0.length c0_0, .slice A0_1 l0_1.length c0_1, .slice A0_2 l0_2.length c0_2, .slice A0_3 l0_3.length c0_3, .slice A0_4 l0_4.length c0_4] 28 (0, 0)) (kK BK459) hb); have n1_ := Aside0.mk (below_step (kB1 HB GE459) hb); clear BK459; clear HB; have BK459 := n0_; have HB := n1_; clear n0_ n1_; (try clear hb); (try clear hb2); (try clear hk); (try clear hi); have hcz9_0 : w8.cell? ⟨gb459, 0, none⟩ = some (.slice A0_0 l0_0.length c0_0) := (blk_cell BK459.out 0).trans rfl; have hcz9_1 : w8.cell? ⟨gb459, 1, none⟩ = some (.slice A0_1 l0_1.length c0_1) := (blk_cell BK459.out 1).trans rfl; have hcz9_2 : w8.cell? ⟨gb459, 2, none⟩ = some (.slice A0_2 l0_2.length c0_2) := (blk_cell BK459.out 2).trans rfl; have hcz9_3 : w8.cell? ⟨gb459, 3, none⟩ = some (.slice A0_3 l0_3.length c0_3) := (blk_cell BK459.out 3).trans rfl; have hcz9_4 : w8.cell? ⟨gb459, 4, none⟩ = some (.slice A0_4 l0_4.length c0_4) := (blk_cell BK459.out 4).trans rfl; have hfz9_0 := blk_frozen BK459.out 0; have hfz9_1 := blk_frozen BK459.out 1; have hfz9_2 := blk_frozen BK459.out 2; have hfz9_3 := blk_frozen BK459.out 3; have hfz9_4 := blk_frozen BK459.out 4)))
 go_loopg [20] k (fun kq v20 w' => ∃ (x20_1 : Int), v20 = .int .i64 x20_1 ∧ Aside0 (w08_TreeBelow.l0 kq t460 (l0_0.length : Int) x20_1 l0_0 l0_1 l0_2 l0_3 l0_4 = some r) ∧ Aside0 (kq ≤ k) ∧ Aside0 (w'.heap[gb459]? = some (.cells #[(.slice A0_0 l0_0.length c0_0), (.slice A0_1 l0_1.length c0_1), (.slice A0_2 l0_2.length c0_2), (.slice A0_3 l0_3.length c0_3), (.slice A0_4 l0_4.length c0_4)] 28 (0, 0))) ∧ Aside0 (Below w.heap.size w w'))
 case atStart => exact ⟨(0), tQ, H', ⟨Nat.le_refl _⟩, ⟨kK BK459⟩, ⟨kB1 HB GE459⟩⟩
 case round =>
  clear H'
  try clear hcz7_0 hcz7_1 hcz7_2 hcz7_3 hcz7_4 hfz7_0 hfz7_1 hfz7_2 hfz7_3 hfz7_4
  try clear hcz9_0 hcz9_1 hcz9_2 hcz9_3 hcz9_4 hfz9_0 hfz9_1 hfz9_2 hfz9_3 hfz9_4
  try clear p2
  try clear c4
  try clear c5
  obtain ⟨x20_1, rfl, HA, HK1, BK459, HB⟩ := hrel
  cases gk with
  | zero => exact absurd HA.out (by simp [w08_TreeBelow.l0])
  | succ k1 =>
   have H := HA.out
   clear HA
   simp only [w08_TreeBelow.l0] at H
   by_cases c10 : x20_1 < (l0_0.length : Int)
   rotate_left
   ·rw [if_neg c10] at H
    have c10b0 : decide (x20_1 < (l0_0.length : Int)) = false := decide_eq_false c10
    clear c10
    obtain rfl := Option.some.inj H
    go_wp2
    repeat (go_quiet (fail); try go_wp2)
    go_ret
    exact ⟨by first | rfl | (simp [errW_none, errW_some] <;> rfl) | (simp [*, errW_none, errW_some] <;> rfl), kB1 HB GE459⟩
   rw [if_pos c10] at H
   have c10b0 : decide (x20_1 < (l0_0.length : Int)) = true := decide_eq_true c10
   clear c10
   replace H := Option.bind_eq_some_iff.mp H
   obtain ⟨⟨t462, t465⟩, A110, H⟩ := H
   replace H : (if t465 = 0 then (if x20_1 = 0 then (w08_TreeBelow.j1 k1 t460 x20_1 t462 (l0_0.length : Int) x20_1 ((t462.length : Int) != (l0_3.length : Int)) l0_0 l0_1 l0_2 l0_3 l0_4) else (w08_TreeBelow.j1 k1 t460 x20_1 t462 (l0_0.length : Int) x20_1 false l0_0 l0_1 l0_2 l0_3 l0_4)) else (w08_TreeBelow.j1 k1 t460 x20_1 t462 (l0_0.length : Int) x20_1 true l0_0 l0_1 l0_2 l0_3 l0_4)) = some r := H
   have A11 := Aside0.mk A110
   clear A110
   have HC12 := Aside0.mk H
   clear H
   have hcz13_0 : wr.cell? ⟨gb459, 0, none⟩ = some (.slice A0_0 l0_0.length c0_0) := (blk_cell BK459.out 0).trans rfl
   have hcz13_1 : wr.cell? ⟨gb459, 1, none⟩ = some (.slice A0_1 l0_1.length c0_1) := (blk_cell BK459.out 1).trans rfl
   have hcz13_2 : wr.cell? ⟨gb459, 2, none⟩ = some (.slice A0_2 l0_2.length c0_2) := (blk_cell BK459.out 2).trans rfl
   have hcz13_3 : wr.cell? ⟨gb459, 3, none⟩ = some (.slice A0_3 l0_3.length c0_3) := (blk_cell BK459.out 3).trans rfl
   have hcz13_4 : wr.cell? ⟨gb459, 4, none⟩ = some (.slice A0_4 l0_4.length c0_4) := (blk_cell BK459.out 4).trans rfl
   have hfz13_0 := blk_frozen BK459.out 0
   have hfz13_1 := blk_frozen BK459.out 1
   have hfz13_2 := blk_frozen BK459.out 2
   have hfz13_3 := blk_frozen BK459.out 3
   have hfz13_4 := blk_frozen BK459.out 4
   go_upto_region 8 with (first | (go_at_call 16; (with_reducible refine (tree_Below.calls _ _ l0_0 _ _ l0_1 _ _ l0_2 _ _ l0_3 _ _ l0_4 x20_1 t462 t465 _ ?side1 ?side2 ?side3 ?side4 ?side5 ?side6 ?side7 ?side8 ?side9 ?side10 A11.out).mono ?_); (case side1 => repeat (first | exact (Kd.C_below HR0_0.out HB.out) | (with_reducible refine Kd.C_alloc ?_ _) | (with_reducible refine Kd.C_drewN ?_ _) | (with_reducible refine Kd.C_drew ?_))); (case side2 => exact HC0_0.out); (case side3 => repeat (first | exact (Kd.C_below HR0_1.out HB.out) | (with_reducible refine Kd.C_alloc ?_ _) | (with_reducible refine Kd.C_drewN ?_ _) | (with_reducible refine Kd.C_drew ?_))); (case side4 => exact HC0_1.out); (case side5 => repeat (first | exact (Kd.C_below HR0_2.out HB.out) | (with_reducible refine Kd.C_alloc ?_ _) | (with_reducible refine Kd.C_drewN ?_ _) | (with_reducible refine Kd.C_drew ?_))); (case side6 => exact HC0_2.out); (case side7 => repeat (first | exact (Kd.C_below HR0_3.out HB.out) | (with_reducible refine Kd.C_alloc ?_ _) | (with_reducible refine Kd.C_drewN ?_ _) | (with_reducible refine Kd.C_drew ?_))); (case side8 => exact HC0_3.out); (case side9 => repeat (first | exact (Kd.C_below HR0_4.out HB.out) | (with_reducible refine Kd.C_alloc ?_ _) | (with_reducible refine Kd.C_drewN ?_ _) | (with_reducible refine Kd.C_drew ?_))); (case side10 => exact HC0_4.out); rintro e w14 ⟨v463, rfl, ho0, hb⟩; have n0_ := Aside0.mk (Kd.R_lower ho0 (below_size (kB1 HB GE459))); have n1_ := Aside0.mk (blk_below (g := gb459) (o := .cells #[.slice A0_0 l0_0.length c0_0, .slice A0_1 l0_1.length c0_1, .slice A0_2 l0_2.length c0_2, .slice A0_3 l0_3.length c0_3, .slice A0_4 l0_4.length c0_4] 28 (0, 0)) (kK BK459) hb); have n2_ := Aside0.mk (below_step (kB1 HB GE459) hb); clear BK459; clear HB; have HO464 := n0_; have BK459 := n1_; have HB := n2_; clear n0_ n1_ n2_; (try clear hb); (try clear hb2); (try clear hk); (try clear hi); (try clear ho0)))
   repeat (go_quiet (first | (go_at_call 16; (with_reducible refine (tree_Below.calls _ _ l0_0 _ _ l0_1 _ _ l0_2 _ _ l0_3 _ _ l0_4 x20_1 t462 t465 _ ?side1 ?side2 ?side3 ?side4 ?side5 ?side6 ?side7 ?side8 ?side9 ?side10 A11.out).mono ?_); (case side1 => repeat (first | exact (Kd.C_below HR0_0.out HB.out) | (with_reducible refine Kd.C_alloc ?_ _) | (with_reducible refine Kd.C_drewN ?_ _) | (with_reducible refine Kd.C_drew ?_))); (case side2 => exact HC0_0.out); (case side3 => repeat (first | exact (Kd.C_below HR0_1.out HB.out) | (with_reducible refine Kd.C_alloc ?_ _) | (with_reducible refine Kd.C_drewN ?_ _) | (with_reducible refine Kd.C_drew ?_))); (case side4 => exact HC0_1.out); (case side5 => repeat (first | exact (Kd.C_below HR0_2.out HB.out) | (with_reducible refine Kd.C_alloc ?_ _) | (with_reducible refine Kd.C_drewN ?_ _) | (with_reducible refine Kd.C_drew ?_))); (case side6 => exact HC0_2.out); (case side7 => repeat (first | exact (Kd.C_below HR0_3.out HB.out) | (with_reducible refine Kd.C_alloc ?_ _) | (with_reducible refine Kd.C_drewN ?_ _) | (with_reducible refine Kd.C_drew ?_))); (case side8 => exact HC0_3.out); (case side9 => repeat (first | exact (Kd.C_below HR0_4.out HB.out) | (with_reducible refine Kd.C_alloc ?_ _) | (with_reducible refine Kd.C_drewN ?_ _) | (with_reducible refine Kd.C_drew ?_))); (case side10 => exact HC0_4.out); rintro e w14 ⟨v463, rfl, ho0, hb⟩; have n0_ := Aside0.mk (Kd.R_lower ho0 (below_size (kB1 HB GE459))); have n1_ := Aside0.mk (blk_below (g := gb459) (o := .cells #[.slice A0_0 l0_0.length c0_0, .slice A0_1 l0_1.length c0_1, .slice A0_2 l0_2.length c0_2, .slice A0_3 l0_3.length c0_3, .slice A0_4 l0_4.length c0_4] 28 (0, 0)) (kK BK459) hb); have n2_ := Aside0.mk (below_step (kB1 HB GE459) hb); clear BK459; clear HB; have HO464 := n0_; have BK459 := n1_; have HB := n2_; clear n0_ n1_ n2_; (try clear hb); (try clear hb2); (try clear hk); (try clear hi); (try clear ho0))); go_upto_region 8 with (first | (go_at_call 16; (with_reducible refine (tree_Below.calls _ _ l0_0 _ _ l0_1 _ _ l0_2 _ _ l0_3 _ _ l0_4 x20_1 t462 t465 _ ?side1 ?side2 ?side3 ?side4 ?side5 ?side6 ?side7 ?side8 ?side9 ?side10 A11.out).mono ?_); (case side1 => repeat (first | exact (Kd.C_below HR0_0.out HB.out) | (with_reducible refine Kd.C_alloc ?_ _) | (with_reducible refine Kd.C_drewN ?_ _) | (with_reducible refine Kd.C_drew ?_))); (case side2 => exact HC0_0.out); (case side3 => repeat (first | exact (Kd.C_below HR0_1.out HB.out) | (with_reducible refine Kd.C_alloc ?_ _) | (with_reducible refine Kd.C_drewN ?_ _) | (with_reducible refine Kd.C_drew ?_))); (case side4 => exact HC0_1.out); (case side5 => repeat (first | exact (Kd.C_below HR0_2.out HB.out) | (with_reducible refine Kd.C_alloc ?_ _) | (with_reducible refine Kd.C_drewN ?_ _) | (with_reducible refine Kd.C_drew ?_))); (case side6 => exact HC0_2.out); (case side7 => repeat (first | exact (Kd.C_below HR0_3.out HB.out) | (with_reducible refine Kd.C_alloc ?_ _) | (with_reducible refine Kd.C_drewN ?_ _) | (with_reducible refine Kd.C_drew ?_))); (case side8 => exact HC0_3.out); (case side9 => repeat (first | exact (Kd.C_below HR0_4.out HB.out) | (with_reducible refine Kd.C_alloc ?_ _) | (with_reducible refine Kd.C_drewN ?_ _) | (with_reducible refine Kd.C_drew ?_))); (case side10 => exact HC0_4.out); rintro e w14 ⟨v463, rfl, ho0, hb⟩; have n0_ := Aside0.mk (Kd.R_lower ho0 (below_size (kB1 HB GE459))); have n1_ := Aside0.mk (blk_below (g := gb459) (o := .cells #[.slice A0_0 l0_0.length c0_0, .slice A0_1 l0_1.length c0_1, .slice A0_2 l0_2.length c0_2, .slice A0_3 l0_3.length c0_3, .slice A0_4 l0_4.length c0_4] 28 (0, 0)) (kK BK459) hb); have n2_ := Aside0.mk (below_step (kB1 HB GE459) hb); clear BK459; clear HB; have HO464 := n0_; have BK459 := n1_; have HB := n2_; clear n0_ n1_ n2_; (try clear hb); (try clear hb2); (try clear hk); (try clear hi); (try clear ho0))))
   (try simp only [Act.put, List.setIfInBounds_toArray, List.set_cons_zero, List.set_cons_succ])
   go_cut [42] (fun v42 wc => ∃ (kq : Nat) (x42_11 : Bool), v42 = .bool x42_11 ∧ Aside0 (w08_TreeBelow.j1 kq t460 x20_1 t462 (l0_0.length : Int) x20_1 x42_11 l0_0 l0_1 l0_2 l0_3 l0_4 = some r) ∧ Aside0 (kq ≤ k1) ∧ Aside0 (Kd.R (Kd.int .i64) 3 wc w.heap.size (fun _ => True) v463 t462) ∧ Aside0 (wc.heap[gb459]? = some (.cells #[(.slice A0_0 l0_0.length c0_0), (.slice A0_1 l0_1.length c0_1), (.slice A0_2 l0_2.length c0_2), (.slice A0_3 l0_3.length c0_3), (.slice A0_4 l0_4.length c0_4)] 28 (0, 0))) ∧ Aside0 (Below w.heap.size w wc))
   case first =>
    have H := HC12.out
    clear HC12
    by_cases c15 : t465 = 0
    rotate_left
    ·rw [if_neg c15] at H
     have c15b0 : (t465 == 0) = false := beq_eq_false_iff_ne.mpr c15
     have c15b1 : (t465 != 0) = true := bne_iff_ne.mpr c15
     (first | rw [c15b0] | (simp only [i64_w, i32_w]; rw [c15b0]) | skip)
     have H' := Aside0.mk H
     clear H
     go_wp2
     repeat (go_quiet (fail); try go_wp2)
     go_meet
     case rel => exact ⟨_, (true), tQ, H', ⟨by have := HK1.out; first | omega | exact Nat.le_refl _⟩, ⟨kR HO464⟩, ⟨kK BK459⟩, ⟨kB1 HB GE459⟩⟩
    rw [if_pos c15] at H
    have c15b0 : (t465 == 0) = true := beq_iff_eq.mpr c15
    have c15b1 : (t465 != 0) = false := bne_eq_false_iff_eq.mpr c15
    clear c15
    (first | rw [c15b0] | (simp only [i64_w, i32_w]; rw [c15b0]) | skip)
    by_cases c16 : x20_1 = 0
    rotate_left
    ·rw [if_neg c16] at H
     have c16b0 : (x20_1 == 0) = false := beq_eq_false_iff_ne.mpr c16
     have c16b1 : (x20_1 != 0) = true := bne_iff_ne.mpr c16
     have H' := Aside0.mk H
     clear H
     go_wp2
     repeat (go_quiet (fail); try go_wp2)
     go_meet
     case rel => exact ⟨_, (false), tQ, H', ⟨by have := HK1.out; first | omega | exact Nat.le_refl _⟩, ⟨kR HO464⟩, ⟨kK BK459⟩, ⟨kB1 HB GE459⟩⟩
    rw [if_pos c16] at H
    have c16b0 : (x20_1 == 0) = true := beq_iff_eq.mpr c16
    have c16b1 : (x20_1 != 0) = false := bne_eq_false_iff_eq.mpr c16
    clear c16
    have H' := Aside0.mk H
    clear H
    obtain ⟨Ao17, co17, eo17⟩ := Kd.R_slice HO464.out
    subst eo17
    have hcz18_0 : w14.cell? ⟨gb459, 0, none⟩ = some (.slice A0_0 l0_0.length c0_0) := (blk_cell BK459.out 0).trans rfl
    have hcz18_1 : w14.cell? ⟨gb459, 1, none⟩ = some (.slice A0_1 l0_1.length c0_1) := (blk_cell BK459.out 1).trans rfl
    have hcz18_2 : w14.cell? ⟨gb459, 2, none⟩ = some (.slice A0_2 l0_2.length c0_2) := (blk_cell BK459.out 2).trans rfl
    have hcz18_3 : w14.cell? ⟨gb459, 3, none⟩ = some (.slice A0_3 l0_3.length c0_3) := (blk_cell BK459.out 3).trans rfl
    have hcz18_4 : w14.cell? ⟨gb459, 4, none⟩ = some (.slice A0_4 l0_4.length c0_4) := (blk_cell BK459.out 4).trans rfl
    have hfz18_0 := blk_frozen BK459.out 0
    have hfz18_1 := blk_frozen BK459.out 1
    have hfz18_2 := blk_frozen BK459.out 2
    have hfz18_3 := blk_frozen BK459.out 3
    have hfz18_4 := blk_frozen BK459.out 4
    go_wp2
    repeat (go_quiet (fail); try go_wp2)
    go_meet
    case rel => exact ⟨_, (((t462.length : Int) != (l0_3.length : Int))), tQ, H', ⟨by have := HK1.out; first | omega | exact Nat.le_refl _⟩, ⟨kR HO464⟩, ⟨kK BK459⟩, ⟨kB1 HB GE459⟩⟩
   case rest =>
    clear HC12
    try clear hcz13_0 hcz13_1 hcz13_2 hcz13_3 hcz13_4 hfz13_0 hfz13_1 hfz13_2 hfz13_3 hfz13_4
    try clear hcz18_0 hcz18_1 hcz18_2 hcz18_3 hcz18_4 hfz18_0 hfz18_1 hfz18_2 hfz18_3 hfz18_4
    try clear hcz7_0 hcz7_1 hcz7_2 hcz7_3 hcz7_4 hfz7_0 hfz7_1 hfz7_2 hfz7_3 hfz7_4
    try clear hcz9_0 hcz9_1 hcz9_2 hcz9_3 hcz9_4 hfz9_0 hfz9_1 hfz9_2 hfz9_3 hfz9_4
    try clear c1
    try clear p2
    try clear c4
    try clear c5
    try clear c10
    try clear c10b0
    try clear c15
    try clear c15b0
    try clear c15b1
    try clear c16
    try clear c16b0
    try clear c16b1
    try clear p2
    obtain ⟨kq, x42_11, rfl, HA, HJ11, HO_5, BK459, HB⟩ := hcut
    cases kq with
    | zero => exact absurd HA.out (by simp [w08_TreeBelow.j1])
    | succ kj11 =>
     have H := HA.out
     clear HA
     simp only [w08_TreeBelow.j1] at H
     by_cases c19 : x42_11 = true
     ·subst c19
      have H1 : (some false) = some r := by rw [if_pos rfl] at H; exact H
      clear H
      have H := H1
      clear H1
      obtain rfl := Option.some.inj H
      go_wp2
      repeat (go_quiet (fail); try go_wp2)
      go_ret
      exact ⟨by first | rfl | (simp [errW_none, errW_some] <;> rfl) | (simp [*, errW_none, errW_some] <;> rfl), kB1 HB GE459⟩
     replace c19 := Bool.eq_false_iff.mpr c19
     subst c19
     have H1 : (w08_TreeBelow.l1 kj11 t460 x20_1 t462 0 (l0_0.length : Int) x20_1 (l0_3.length : Int) 0 l0_0 l0_1 l0_2 l0_3 l0_4) = some r := by rw [if_neg (show ¬ (false = true) by decide)] at H; exact H
     clear H
     have H := H1
     clear H1
     have H' := Aside0.mk H
     clear H
     have hcz20_0 : wc.cell? ⟨gb459, 0, none⟩ = some (.slice A0_0 l0_0.length c0_0) := (blk_cell BK459.out 0).trans rfl
     have hcz20_1 : wc.cell? ⟨gb459, 1, none⟩ = some (.slice A0_1 l0_1.length c0_1) := (blk_cell BK459.out 1).trans rfl
     have hcz20_2 : wc.cell? ⟨gb459, 2, none⟩ = some (.slice A0_2 l0_2.length c0_2) := (blk_cell BK459.out 2).trans rfl
     have hcz20_3 : wc.cell? ⟨gb459, 3, none⟩ = some (.slice A0_3 l0_3.length c0_3) := (blk_cell BK459.out 3).trans rfl
     have hcz20_4 : wc.cell? ⟨gb459, 4, none⟩ = some (.slice A0_4 l0_4.length c0_4) := (blk_cell BK459.out 4).trans rfl
     have hfz20_0 := blk_frozen BK459.out 0
     have hfz20_1 := blk_frozen BK459.out 1
     have hfz20_2 := blk_frozen BK459.out 2
     have hfz20_3 := blk_frozen BK459.out 3
     have hfz20_4 := blk_frozen BK459.out 4
     go_wp2
     repeat (go_quiet (fail); try go_wp2)
     go_loopg [7, 46] kj11 (fun kq v7 v46 w' => ∃ (x7_3 : Int) (x46_3 : Int), v7 = .int .i64 x7_3 ∧ v46 = .int .i64 x46_3 ∧ Aside0 (w08_TreeBelow.l1 kq t460 x20_1 t462 x7_3 (l0_0.length : Int) x20_1 (l0_3.length : Int) x46_3 l0_0 l0_1 l0_2 l0_3 l0_4 = some r) ∧ Aside0 (kq ≤ kj11) ∧ Aside0 (Kd.R (Kd.int .i64) 3 w' w.heap.size (fun _ => True) v463 t462) ∧ Aside0 (w'.heap[gb459]? = some (.cells #[(.slice A0_0 l0_0.length c0_0), (.slice A0_1 l0_1.length c0_1), (.slice A0_2 l0_2.length c0_2), (.slice A0_3 l0_3.length c0_3), (.slice A0_4 l0_4.length c0_4)] 28 (0, 0))) ∧ Aside0 (Below w.heap.size w w'))
     case atStart => exact ⟨(0), (0), tQ, tQ, H', ⟨Nat.le_refl _⟩, ⟨kR HO_5⟩, ⟨kK BK459⟩, ⟨kB1 HB GE459⟩⟩
     case round =>
      clear H'
      try clear hcz13_0 hcz13_1 hcz13_2 hcz13_3 hcz13_4 hfz13_0 hfz13_1 hfz13_2 hfz13_3 hfz13_4
      try clear hcz18_0 hcz18_1 hcz18_2 hcz18_3 hcz18_4 hfz18_0 hfz18_1 hfz18_2 hfz18_3 hfz18_4
      try clear hcz20_0 hcz20_1 hcz20_2 hcz20_3 hcz20_4 hfz20_0 hfz20_1 hfz20_2 hfz20_3 hfz20_4
      try clear hcz7_0 hcz7_1 hcz7_2 hcz7_3 hcz7_4 hfz7_0 hfz7_1 hfz7_2 hfz7_3 hfz7_4
      try clear hcz9_0 hcz9_1 hcz9_2 hcz9_3 hcz9_4 hfz9_0 hfz9_1 hfz9_2 hfz9_3 hfz9_4
      try clear c1
      try clear p2
      try clear c4
      try clear c5
      try clear c10
      try clear c10b0
      try clear c15
      try clear c15b0
      try clear c15b1
      try clear c16
      try clear c16b0
      try clear c16b1
      try clear c19
      try clear p2
      obtain ⟨x7_3, x46_3, rfl, rfl, HA, HK3, HO_5, BK459, HB⟩ := hrel
      cases gk with
      | zero => exact absurd HA.out (by simp [w08_TreeBelow.l1])
      | succ k3 =>
       have H := HA.out
       clear HA
       simp only [w08_TreeBelow.l1] at H
       by_cases c21 : x46_3 < (l0_3.length : Int)
       rotate_left
       ·rw [if_neg c21] at H
        have c21b0 : decide (x46_3 < (l0_3.length : Int)) = false := decide_eq_false c21
        clear c21
        have H' := Aside0.mk H
        clear H
        go_wp2
        repeat (go_quiet (fail); try go_wp2)
        go_loopg [11] k3 (fun kq v11 w' => ∃ (x11_4 : Int), v11 = .int .i64 x11_4 ∧ Aside0 (w08_TreeBelow.l2 kq t460 t462 x7_3 x11_4 (l0_0.length : Int) x20_1 l0_0 l0_1 l0_2 l0_3 l0_4 = some r) ∧ Aside0 (kq ≤ k3) ∧ Aside0 (Kd.R (Kd.int .i64) 3 w' w.heap.size (fun _ => True) v463 t462) ∧ Aside0 (w'.heap[gb459]? = some (.cells #[(.slice A0_0 l0_0.length c0_0), (.slice A0_1 l0_1.length c0_1), (.slice A0_2 l0_2.length c0_2), (.slice A0_3 l0_3.length c0_3), (.slice A0_4 l0_4.length c0_4)] 28 (0, 0))) ∧ Aside0 (Below w.heap.size w w'))
        case atStart => exact ⟨(1), tQ, H', ⟨Nat.le_refl _⟩, ⟨kR HO_5⟩, ⟨kK BK459⟩, ⟨kB1 HB GE459⟩⟩
        case round =>
         clear H'
         try clear hcz13_0 hcz13_1 hcz13_2 hcz13_3 hcz13_4 hfz13_0 hfz13_1 hfz13_2 hfz13_3 hfz13_4
         try clear hcz18_0 hcz18_1 hcz18_2 hcz18_3 hcz18_4 hfz18_0 hfz18_1 hfz18_2 hfz18_3 hfz18_4
         try clear hcz20_0 hcz20_1 hcz20_2 hcz20_3 hcz20_4 hfz20_0 hfz20_1 hfz20_2 hfz20_3 hfz20_4
         try clear hcz24_0 hcz24_1 hcz24_2 hcz24_3 hcz24_4 hfz24_0 hfz24_1 hfz24_2 hfz24_3 hfz24_4
         try clear hcz7_0 hcz7_1 hcz7_2 hcz7_3 hcz7_4 hfz7_0 hfz7_1 hfz7_2 hfz7_3 hfz7_4
         try clear hcz9_0 hcz9_1 hcz9_2 hcz9_3 hcz9_4 hfz9_0 hfz9_1 hfz9_2 hfz9_3 hfz9_4
         try clear c1
         try clear c2
         try clear p2
         try clear c3
         try clear c4
         try clear c5
         try clear p6
         try clear c10
         try clear c10b0
         try clear c15
         try clear c15b0
         try clear c15b1
         try clear c16
         try clear c16b0
         try clear c16b1
         try clear c19
         try clear c21
         try clear c21b0
         try clear c26
         try clear c26b0
         try clear c26b1
         try clear c31
         try clear c33
         try clear p2
         obtain ⟨x11_4, rfl, HA, HK4, HO_5, BK459, HB⟩ := hrel
         cases gk with
         | zero => exact absurd HA.out (by simp [w08_TreeBelow.l2])
         | succ k4 =>
          have H := HA.out
          clear HA
          simp only [w08_TreeBelow.l2] at H
          by_cases c36 : x11_4 < (t462.length : Int)
          rotate_left
          ·rw [if_neg c36] at H
           have c36b0 : decide (x11_4 < (t462.length : Int)) = false := decide_eq_false c36
           clear c36
           by_cases c44 : x7_3 = (t462.length : Int)
           rotate_left
           ·rw [if_neg c44] at H
            have c44b0 : (x7_3 == (t462.length : Int)) = false := beq_eq_false_iff_ne.mpr c44
            have c44b1 : (x7_3 != (t462.length : Int)) = true := bne_iff_ne.mpr c44
            obtain rfl := Option.some.inj H
            obtain ⟨Ao46, co46, eo46⟩ := Kd.R_slice HO_5.out
            subst eo46
            go_wp2
            repeat (go_quiet (fail); try go_wp2)
            go_ret
            exact ⟨by first | rfl | (simp [errW_none, errW_some] <;> rfl) | (simp [*, errW_none, errW_some] <;> rfl), kB1 HB GE459⟩
           rw [if_pos c44] at H
           have c44b0 : (x7_3 == (t462.length : Int)) = true := beq_iff_eq.mpr c44
           have c44b1 : (x7_3 != (t462.length : Int)) = false := bne_eq_false_iff_eq.mpr c44
           clear c44
           have H' := Aside0.mk H
           clear H
           obtain ⟨Ao45, co45, eo45⟩ := Kd.R_slice HO_5.out
           subst eo45
           go_wp2
           repeat (go_quiet (fail); try go_wp2)
           go_roundg k4
           case measure => have := HK1.out; have := HJ11.out; have := HK3.out; have := HK4.out; omega
           case rel => exact ⟨(wrap64 (x20_1 + 1)), tQ, H', ⟨by have := HK1.out; have := HJ11.out; have := HK3.out; have := HK4.out; omega⟩, ⟨kK BK459⟩, ⟨kB1 HB GE459⟩⟩
          rw [if_pos c36] at H
          have c36b0 : decide (x11_4 < (t462.length : Int)) = true := decide_eq_true c36
          clear c36
          by_cases c37 : 0 ≤ x11_4
          rotate_left
          ·rw [if_neg c37] at H
           exact absurd H (by simp)
          rw [if_pos c37] at H
          have c37b0 : decide (0 ≤ x11_4) = true := decide_eq_true c37
          clear c37
          obtain ⟨ji38, hji38⟩ : ∃ j_ : Int, (wrap64 (x11_4 - 1)) = j_ := ⟨_, rfl⟩
          replace H : (if 0 ≤ (ji38) then (if (ji38) < (t462.length : Int) then (if (rd t462 x11_4) ≤ (rd t462 (ji38)) then (some false) else (w08_TreeBelow.l2 k4 t460 t462 x7_3 (wrap64 (x11_4 + 1)) (l0_0.length : Int) x20_1 l0_0 l0_1 l0_2 l0_3 l0_4)) else (none)) else (none)) = some r := by first | (rw [hji38] at H; exact H) | (simp only [hji38] at H ⊢; exact H)
          have hji38w : (IntKind.i64.wrap (x11_4 - 1)) = ji38 := (i64_w _).trans hji38
          by_cases c39 : 0 ≤ (ji38)
          rotate_left
          ·rw [if_neg c39] at H
           exact absurd H (by simp)
          rw [if_pos c39] at H
          have c39b0 : decide (0 ≤ (ji38)) = true := decide_eq_true c39
          clear c39
          by_cases c40 : (ji38) < (t462.length : Int)
          rotate_left
          ·rw [if_neg c40] at H
           exact absurd H (by simp)
          rw [if_pos c40] at H
          have c40b0 : decide ((ji38) < (t462.length : Int)) = true := decide_eq_true c40
          clear c40
          by_cases c41 : (rd t462 x11_4) ≤ (rd t462 (ji38))
          ·rw [if_pos c41] at H
           have c41b0 : decide ((rd t462 x11_4) ≤ (rd t462 (ji38))) = true := decide_eq_true c41
           clear c41
           obtain rfl := Option.some.inj H
           obtain ⟨Ao42, co42, eo42⟩ := Kd.R_slice HO_5.out
           subst eo42
           have p473 : 0 ≤ (x11_4 : Int) := tD
           have q473 : x11_4 < (t462.length : Int) := tD
           obtain ⟨ad473, e473, hx473_0⟩ := Kd.at_int (Kd.R_reads' HO_5.out).2.2 x11_4 p473 q473
           cases e473
           replace p473 := eq_true p473
           replace q473 := eq_true q473
           have p474 : 0 ≤ ((ji38) : Int) := tD
           have q474 : (ji38) < (t462.length : Int) := tD
           obtain ⟨ad474, e474, hx474_0⟩ := Kd.at_int (Kd.R_reads' HO_5.out).2.2 (ji38) p474 q474
           obtain rfl : ad473 = ad474 := (by injection e474)
           replace p474 := eq_true p474
           replace q474 := eq_true q474
           go_wp2
           repeat (go_quiet (fail); try go_wp2)
           go_ret
           exact ⟨by first | rfl | (simp [errW_none, errW_some] <;> rfl) | (simp only [← hji38]; first | rfl | (simp [errW_none, errW_some] <;> rfl)) | (simp [*, errW_none, errW_some] <;> rfl), kB1 HB GE459⟩
          rw [if_neg c41] at H
          have c41b0 : decide ((rd t462 x11_4) ≤ (rd t462 (ji38))) = false := decide_eq_false c41
          clear c41
          have H' := Aside0.mk H
          clear H
          obtain ⟨Ao43, co43, eo43⟩ := Kd.R_slice HO_5.out
          subst eo43
          have p473 : 0 ≤ (x11_4 : Int) := tD
          have q473 : x11_4 < (t462.length : Int) := tD
          obtain ⟨ad473, e473, hx473_0⟩ := Kd.at_int (Kd.R_reads' HO_5.out).2.2 x11_4 p473 q473
          cases e473
          replace p473 := eq_true p473
          replace q473 := eq_true q473
          have p474 : 0 ≤ ((ji38) : Int) := tD
          have q474 : (ji38) < (t462.length : Int) := tD
          obtain ⟨ad474, e474, hx474_0⟩ := Kd.at_int (Kd.R_reads' HO_5.out).2.2 (ji38) p474 q474
          obtain rfl : ad473 = ad474 := (by injection e474)
          replace p474 := eq_true p474
          replace q474 := eq_true q474
          go_wp2
          repeat (go_quiet (fail); try go_wp2)
          go_roundg k4
          case measure => have := HK1.out; have := HJ11.out; have := HK3.out; have := HK4.out; omega
          case rel => exact ⟨(wrap64 (x11_4 + 1)), tQ, H', ⟨by have := HK1.out; have := HJ11.out; have := HK3.out; have := HK4.out; omega⟩, ⟨kR HO_5⟩, ⟨kK BK459⟩, ⟨kB1 HB GE459⟩⟩
       rw [if_pos c21] at H
       have c21b0 : decide (x46_3 < (l0_3.length : Int)) = true := decide_eq_true c21
       clear c21
       replace H := Option.bind_eq_some_iff.mp H
       obtain ⟨⟨t466, t469⟩, A220, H⟩ := H
       replace H : (if t469 = 0 then ((w08_in.f k3 t466 x20_1).bind fun t470 => ((w08_in.f k3 t462 x46_3).bind fun t471 => (w08_TreeBelow.j3 k3 t460 x20_1 t462 x7_3 t466 (l0_0.length : Int) x20_1 (l0_3.length : Int) x46_3 (t470 != t471) l0_0 l0_1 l0_2 l0_3 l0_4))) else (w08_TreeBelow.j3 k3 t460 x20_1 t462 x7_3 t466 (l0_0.length : Int) x20_1 (l0_3.length : Int) x46_3 true l0_0 l0_1 l0_2 l0_3 l0_4)) = some r := H
       have A22 := Aside0.mk A220
       clear A220
       have HC23 := Aside0.mk H
       clear H
       have hcz24_0 : wr.cell? ⟨gb459, 0, none⟩ = some (.slice A0_0 l0_0.length c0_0) := (blk_cell BK459.out 0).trans rfl
       have hcz24_1 : wr.cell? ⟨gb459, 1, none⟩ = some (.slice A0_1 l0_1.length c0_1) := (blk_cell BK459.out 1).trans rfl
       have hcz24_2 : wr.cell? ⟨gb459, 2, none⟩ = some (.slice A0_2 l0_2.length c0_2) := (blk_cell BK459.out 2).trans rfl
       have hcz24_3 : wr.cell? ⟨gb459, 3, none⟩ = some (.slice A0_3 l0_3.length c0_3) := (blk_cell BK459.out 3).trans rfl
       have hcz24_4 : wr.cell? ⟨gb459, 4, none⟩ = some (.slice A0_4 l0_4.length c0_4) := (blk_cell BK459.out 4).trans rfl
       have hfz24_0 := blk_frozen BK459.out 0
       have hfz24_1 := blk_frozen BK459.out 1
       have hfz24_2 := blk_frozen BK459.out 2
       have hfz24_3 := blk_frozen BK459.out 3
       have hfz24_4 := blk_frozen BK459.out 4
       go_upto_region 15 with (first | (go_at_call 12; (with_reducible refine (tree_Path.calls _ _ l0_0 _ _ l0_1 _ _ l0_2 _ _ l0_3 _ _ l0_4 x46_3 t466 t469 _ ?side1 ?side2 ?side3 ?side4 ?side5 ?side6 ?side7 ?side8 ?side9 ?side10 A22.out).mono ?_); (case side1 => repeat (first | exact (Kd.C_below HR0_0.out HB.out) | (with_reducible refine Kd.C_alloc ?_ _) | (with_reducible refine Kd.C_drewN ?_ _) | (with_reducible refine Kd.C_drew ?_))); (case side2 => exact HC0_0.out); (case side3 => repeat (first | exact (Kd.C_below HR0_1.out HB.out) | (with_reducible refine Kd.C_alloc ?_ _) | (with_reducible refine Kd.C_drewN ?_ _) | (with_reducible refine Kd.C_drew ?_))); (case side4 => exact HC0_1.out); (case side5 => repeat (first | exact (Kd.C_below HR0_2.out HB.out) | (with_reducible refine Kd.C_alloc ?_ _) | (with_reducible refine Kd.C_drewN ?_ _) | (with_reducible refine Kd.C_drew ?_))); (case side6 => exact HC0_2.out); (case side7 => repeat (first | exact (Kd.C_below HR0_3.out HB.out) | (with_reducible refine Kd.C_alloc ?_ _) | (with_reducible refine Kd.C_drewN ?_ _) | (with_reducible refine Kd.C_drew ?_))); (case side8 => exact HC0_3.out); (case side9 => repeat (first | exact (Kd.C_below HR0_4.out HB.out) | (with_reducible refine Kd.C_alloc ?_ _) | (with_reducible refine Kd.C_drewN ?_ _) | (with_reducible refine Kd.C_drew ?_))); (case side10 => exact HC0_4.out); rintro e w25 ⟨v467, rfl, ho0, hb⟩; have n0_ := Aside0.mk (Kd.R_elder' (kR HO_5) (Kd.R_base ho0) hb); have n1_ := Aside0.mk (Kd.R_lower (Kd.R_new' ho0 (Kd.R_lt (kR HO_5))) (below_size (kB1 HB GE459))); have n2_ := Aside0.mk (blk_below (g := gb459) (o := .cells #[.slice A0_0 l0_0.length c0_0, .slice A0_1 l0_1.length c0_1, .slice A0_2 l0_2.length c0_2, .slice A0_3 l0_3.length c0_3, .slice A0_4 l0_4.length c0_4] 28 (0, 0)) (kK BK459) hb); have n3_ := Aside0.mk (below_step (kB1 HB GE459) hb); clear HO_5; clear BK459; clear HB; have HO_5 := n0_; have HO468 := n1_; have BK459 := n2_; have HB := n3_; clear n0_ n1_ n2_ n3_; (try clear hb); (try clear hb2); (try clear hk); (try clear hi); (try clear ho0)))
       repeat (go_quiet (first | (go_at_call 12; (with_reducible refine (tree_Path.calls _ _ l0_0 _ _ l0_1 _ _ l0_2 _ _ l0_3 _ _ l0_4 x46_3 t466 t469 _ ?side1 ?side2 ?side3 ?side4 ?side5 ?side6 ?side7 ?side8 ?side9 ?side10 A22.out).mono ?_); (case side1 => repeat (first | exact (Kd.C_below HR0_0.out HB.out) | (with_reducible refine Kd.C_alloc ?_ _) | (with_reducible refine Kd.C_drewN ?_ _) | (with_reducible refine Kd.C_drew ?_))); (case side2 => exact HC0_0.out); (case side3 => repeat (first | exact (Kd.C_below HR0_1.out HB.out) | (with_reducible refine Kd.C_alloc ?_ _) | (with_reducible refine Kd.C_drewN ?_ _) | (with_reducible refine Kd.C_drew ?_))); (case side4 => exact HC0_1.out); (case side5 => repeat (first | exact (Kd.C_below HR0_2.out HB.out) | (with_reducible refine Kd.C_alloc ?_ _) | (with_reducible refine Kd.C_drewN ?_ _) | (with_reducible refine Kd.C_drew ?_))); (case side6 => exact HC0_2.out); (case side7 => repeat (first | exact (Kd.C_below HR0_3.out HB.out) | (with_reducible refine Kd.C_alloc ?_ _) | (with_reducible refine Kd.C_drewN ?_ _) | (with_reducible refine Kd.C_drew ?_))); (case side8 => exact HC0_3.out); (case side9 => repeat (first | exact (Kd.C_below HR0_4.out HB.out) | (with_reducible refine Kd.C_alloc ?_ _) | (with_reducible refine Kd.C_drewN ?_ _) | (with_reducible refine Kd.C_drew ?_))); (case side10 => exact HC0_4.out); rintro e w25 ⟨v467, rfl, ho0, hb⟩; have n0_ := Aside0.mk (Kd.R_elder' (kR HO_5) (Kd.R_base ho0) hb); have n1_ := Aside0.mk (Kd.R_lower (Kd.R_new' ho0 (Kd.R_lt (kR HO_5))) (below_size (kB1 HB GE459))); have n2_ := Aside0.mk (blk_below (g := gb459) (o := .cells #[.slice A0_0 l0_0.length c0_0, .slice A0_1 l0_1.length c0_1, .slice A0_2 l0_2.length c0_2, .slice A0_3 l0_3.length c0_3, .slice A0_4 l0_4.length c0_4] 28 (0, 0)) (kK BK459) hb); have n3_ := Aside0.mk (below_step (kB1 HB GE459) hb); clear HO_5; clear BK459; clear HB; have HO_5 := n0_; have HO468 := n1_; have BK459 := n2_; have HB := n3_; clear n0_ n1_ n2_ n3_; (try clear hb); (try clear hb2); (try clear hk); (try clear hi); (try clear ho0))); go_upto_region 15 with (first | (go_at_call 12; (with_reducible refine (tree_Path.calls _ _ l0_0 _ _ l0_1 _ _ l0_2 _ _ l0_3 _ _ l0_4 x46_3 t466 t469 _ ?side1 ?side2 ?side3 ?side4 ?side5 ?side6 ?side7 ?side8 ?side9 ?side10 A22.out).mono ?_); (case side1 => repeat (first | exact (Kd.C_below HR0_0.out HB.out) | (with_reducible refine Kd.C_alloc ?_ _) | (with_reducible refine Kd.C_drewN ?_ _) | (with_reducible refine Kd.C_drew ?_))); (case side2 => exact HC0_0.out); (case side3 => repeat (first | exact (Kd.C_below HR0_1.out HB.out) | (with_reducible refine Kd.C_alloc ?_ _) | (with_reducible refine Kd.C_drewN ?_ _) | (with_reducible refine Kd.C_drew ?_))); (case side4 => exact HC0_1.out); (case side5 => repeat (first | exact (Kd.C_below HR0_2.out HB.out) | (with_reducible refine Kd.C_alloc ?_ _) | (with_reducible refine Kd.C_drewN ?_ _) | (with_reducible refine Kd.C_drew ?_))); (case side6 => exact HC0_2.out); (case side7 => repeat (first | exact (Kd.C_below HR0_3.out HB.out) | (with_reducible refine Kd.C_alloc ?_ _) | (with_reducible refine Kd.C_drewN ?_ _) | (with_reducible refine Kd.C_drew ?_))); (case side8 => exact HC0_3.out); (case side9 => repeat (first | exact (Kd.C_below HR0_4.out HB.out) | (with_reducible refine Kd.C_alloc ?_ _) | (with_reducible refine Kd.C_drewN ?_ _) | (with_reducible refine Kd.C_drew ?_))); (case side10 => exact HC0_4.out); rintro e w25 ⟨v467, rfl, ho0, hb⟩; have n0_ := Aside0.mk (Kd.R_elder' (kR HO_5) (Kd.R_base ho0) hb); have n1_ := Aside0.mk (Kd.R_lower (Kd.R_new' ho0 (Kd.R_lt (kR HO_5))) (below_size (kB1 HB GE459))); have n2_ := Aside0.mk (blk_below (g := gb459) (o := .cells #[.slice A0_0 l0_0.length c0_0, .slice A0_1 l0_1.length c0_1, .slice A0_2 l0_2.length c0_2, .slice A0_3 l0_3.length c0_3, .slice A0_4 l0_4.length c0_4] 28 (0, 0)) (kK BK459) hb); have n3_ := Aside0.mk (below_step (kB1 HB GE459) hb); clear HO_5; clear BK459; clear HB; have HO_5 := n0_; have HO468 := n1_; have BK459 := n2_; have HB := n3_; clear n0_ n1_ n2_ n3_; (try clear hb); (try clear hb2); (try clear hk); (try clear hi); (try clear ho0))))
       (try simp only [Act.put, List.setIfInBounds_toArray, List.set_cons_zero, List.set_cons_succ])
       go_cut [65] (fun v65 wc => ∃ (kq : Nat) (x65_22 : Bool), v65 = .bool x65_22 ∧ Aside0 (w08_TreeBelow.j3 kq t460 x20_1 t462 x7_3 t466 (l0_0.length : Int) x20_1 (l0_3.length : Int) x46_3 x65_22 l0_0 l0_1 l0_2 l0_3 l0_4 = some r) ∧ Aside0 (kq ≤ k3) ∧ Aside0 (Kd.R (Kd.int .i64) 3 wc w.heap.size (fun k_ => some k_ ≠ (v467 : Value).ownBlock) v463 t462) ∧ Aside0 (Kd.R (Kd.int .i64) 3 wc w.heap.size (fun k_ => some k_ ≠ (v463 : Value).ownBlock) v467 t466) ∧ Aside0 (wc.heap[gb459]? = some (.cells #[(.slice A0_0 l0_0.length c0_0), (.slice A0_1 l0_1.length c0_1), (.slice A0_2 l0_2.length c0_2), (.slice A0_3 l0_3.length c0_3), (.slice A0_4 l0_4.length c0_4)] 28 (0, 0))) ∧ Aside0 (Below w.heap.size w wc))
       case first =>
        have H := HC23.out
        clear HC23
        by_cases c26 : t469 = 0
        rotate_left
        ·rw [if_neg c26] at H
         have c26b0 : (t469 == 0) = false := beq_eq_false_iff_ne.mpr c26
         have c26b1 : (t469 != 0) = true := bne_iff_ne.mpr c26
         (first | rw [c26b0] | (simp only [i64_w, i32_w]; rw [c26b0]) | skip)
         have H' := Aside0.mk H
         clear H
         go_wp2
         repeat (go_quiet (fail); try go_wp2)
         go_meet
         case rel => exact ⟨_, (true), tQ, H', ⟨by have := HK1.out; have := HJ11.out; have := HK3.out; first | omega | exact Nat.le_refl _⟩, ⟨by (with_reducible repeat (first | apply Kd.R_alloc | apply Kd.R_drewN | apply Kd.R_drew)); exact Kd.R_mono HO_5.out (fun _ hk => hk.2)⟩, ⟨by (with_reducible repeat (first | apply Kd.R_alloc | apply Kd.R_drewN | apply Kd.R_drew)); exact Kd.R_mono HO468.out (fun _ hk => hk.2)⟩, ⟨kK BK459⟩, ⟨kB1 HB GE459⟩⟩
        rw [if_pos c26] at H
        have c26b0 : (t469 == 0) = true := beq_iff_eq.mpr c26
        have c26b1 : (t469 != 0) = false := bne_eq_false_iff_eq.mpr c26
        clear c26
        (first | rw [c26b0] | (simp only [i64_w, i32_w]; rw [c26b0]) | skip)
        replace H := Option.bind_eq_some_iff.mp H
        obtain ⟨t470, A270, H⟩ := H
        replace H : ((w08_in.f k3 t462 x46_3).bind fun t471 => (w08_TreeBelow.j3 k3 t460 x20_1 t462 x7_3 t466 (l0_0.length : Int) x20_1 (l0_3.length : Int) x46_3 (t470 != t471) l0_0 l0_1 l0_2 l0_3 l0_4)) = some r := H
        have A27 := Aside0.mk A270
        clear A270
        replace H := Option.bind_eq_some_iff.mp H
        obtain ⟨t471, A280, H⟩ := H
        replace H : (w08_TreeBelow.j3 k3 t460 x20_1 t462 x7_3 t466 (l0_0.length : Int) x20_1 (l0_3.length : Int) x46_3 (t470 != t471) l0_0 l0_1 l0_2 l0_3 l0_4) = some r := H
        have A28 := Aside0.mk A280
        clear A280
        have H' := Aside0.mk H
        clear H
        obtain ⟨Ao29, co29, eo29⟩ := Kd.R_slice HO468.out
        subst eo29
        go_wp2_with (first | (go_at_call 21; (with_reducible refine (w08_in.calls k3 _ _ t466 x20_1 t470 _ ?side1 ?side2 A27.out).mono ?_); (case side1 => repeat (first | exact (Kd.R_reads' HO468.out).2.2 | (with_reducible refine Kd.C_alloc ?_ _) | (with_reducible refine Kd.C_drewN ?_ _) | (with_reducible refine Kd.C_drew ?_))); (case side2 => exact (Kd.R_reads' HO468.out).2.1); rintro e w' ⟨rfl, ⟨nd, rfl⟩⟩; (try first | exact ⟨rfl, _, World.drewN_drewN _ _ _⟩ | exact ⟨rfl, _, Eq.trans (World.drewN_drewN _ _ _) (congrArg (World.drewN _) (Nat.add_assoc _ _ _))⟩); obtain ⟨Ao30, co30, eo30⟩ := Kd.R_slice HO_5.out; subst eo30) | (go_at_call 21; (with_reducible refine (w08_in.calls k3 _ _ t462 x46_3 t471 _ ?side1 ?side2 A28.out).mono ?_); (case side1 => repeat (first | exact (Kd.R_reads' HO_5.out).2.2 | (with_reducible refine Kd.C_alloc ?_ _) | (with_reducible refine Kd.C_drewN ?_ _) | (with_reducible refine Kd.C_drew ?_))); (case side2 => exact (Kd.R_reads' HO_5.out).2.1); rintro e w' ⟨rfl, ⟨nd, rfl⟩⟩; (try first | exact ⟨rfl, _, World.drewN_drewN _ _ _⟩ | exact ⟨rfl, _, Eq.trans (World.drewN_drewN _ _ _) (congrArg (World.drewN _) (Nat.add_assoc _ _ _))⟩)))
        repeat (go_quiet (first | (go_at_call 21; (with_reducible refine (w08_in.calls k3 _ _ t466 x20_1 t470 _ ?side1 ?side2 A27.out).mono ?_); (case side1 => repeat (first | exact (Kd.R_reads' HO468.out).2.2 | (with_reducible refine Kd.C_alloc ?_ _) | (with_reducible refine Kd.C_drewN ?_ _) | (with_reducible refine Kd.C_drew ?_))); (case side2 => exact (Kd.R_reads' HO468.out).2.1); rintro e w' ⟨rfl, ⟨nd, rfl⟩⟩; (try first | exact ⟨rfl, _, World.drewN_drewN _ _ _⟩ | exact ⟨rfl, _, Eq.trans (World.drewN_drewN _ _ _) (congrArg (World.drewN _) (Nat.add_assoc _ _ _))⟩); obtain ⟨Ao30, co30, eo30⟩ := Kd.R_slice HO_5.out; subst eo30) | (go_at_call 21; (with_reducible refine (w08_in.calls k3 _ _ t462 x46_3 t471 _ ?side1 ?side2 A28.out).mono ?_); (case side1 => repeat (first | exact (Kd.R_reads' HO_5.out).2.2 | (with_reducible refine Kd.C_alloc ?_ _) | (with_reducible refine Kd.C_drewN ?_ _) | (with_reducible refine Kd.C_drew ?_))); (case side2 => exact (Kd.R_reads' HO_5.out).2.1); rintro e w' ⟨rfl, ⟨nd, rfl⟩⟩; (try first | exact ⟨rfl, _, World.drewN_drewN _ _ _⟩ | exact ⟨rfl, _, Eq.trans (World.drewN_drewN _ _ _) (congrArg (World.drewN _) (Nat.add_assoc _ _ _))⟩))); try go_wp2_with (first | (go_at_call 21; (with_reducible refine (w08_in.calls k3 _ _ t466 x20_1 t470 _ ?side1 ?side2 A27.out).mono ?_); (case side1 => repeat (first | exact (Kd.R_reads' HO468.out).2.2 | (with_reducible refine Kd.C_alloc ?_ _) | (with_reducible refine Kd.C_drewN ?_ _) | (with_reducible refine Kd.C_drew ?_))); (case side2 => exact (Kd.R_reads' HO468.out).2.1); rintro e w' ⟨rfl, ⟨nd, rfl⟩⟩; (try first | exact ⟨rfl, _, World.drewN_drewN _ _ _⟩ | exact ⟨rfl, _, Eq.trans (World.drewN_drewN _ _ _) (congrArg (World.drewN _) (Nat.add_assoc _ _ _))⟩); obtain ⟨Ao30, co30, eo30⟩ := Kd.R_slice HO_5.out; subst eo30) | (go_at_call 21; (with_reducible refine (w08_in.calls k3 _ _ t462 x46_3 t471 _ ?side1 ?side2 A28.out).mono ?_); (case side1 => repeat (first | exact (Kd.R_reads' HO_5.out).2.2 | (with_reducible refine Kd.C_alloc ?_ _) | (with_reducible refine Kd.C_drewN ?_ _) | (with_reducible refine Kd.C_drew ?_))); (case side2 => exact (Kd.R_reads' HO_5.out).2.1); rintro e w' ⟨rfl, ⟨nd, rfl⟩⟩; (try first | exact ⟨rfl, _, World.drewN_drewN _ _ _⟩ | exact ⟨rfl, _, Eq.trans (World.drewN_drewN _ _ _) (congrArg (World.drewN _) (Nat.add_assoc _ _ _))⟩))))
        go_meet
        case rel => exact ⟨_, ((t470 != t471)), tQ, H', ⟨by have := HK1.out; have := HJ11.out; have := HK3.out; first | omega | exact Nat.le_refl _⟩, ⟨by (with_reducible repeat (first | apply Kd.R_alloc | apply Kd.R_drewN | apply Kd.R_drew)); exact Kd.R_mono HO_5.out (fun _ hk => hk.2)⟩, ⟨by (with_reducible repeat (first | apply Kd.R_alloc | apply Kd.R_drewN | apply Kd.R_drew)); exact Kd.R_mono HO468.out (fun _ hk => hk.2)⟩, ⟨kK BK459⟩, ⟨kB1 HB GE459⟩⟩
       case rest =>
        clear HC23
        try clear hcz13_0 hcz13_1 hcz13_2 hcz13_3 hcz13_4 hfz13_0 hfz13_1 hfz13_2 hfz13_3 hfz13_4
        try clear hcz18_0 hcz18_1 hcz18_2 hcz18_3 hcz18_4 hfz18_0 hfz18_1 hfz18_2 hfz18_3 hfz18_4
        try clear hcz20_0 hcz20_1 hcz20_2 hcz20_3 hcz20_4 hfz20_0 hfz20_1 hfz20_2 hfz20_3 hfz20_4
        try clear hcz24_0 hcz24_1 hcz24_2 hcz24_3 hcz24_4 hfz24_0 hfz24_1 hfz24_2 hfz24_3 hfz24_4
        try clear hcz7_0 hcz7_1 hcz7_2 hcz7_3 hcz7_4 hfz7_0 hfz7_1 hfz7_2 hfz7_3 hfz7_4
        try clear hcz9_0 hcz9_1 hcz9_2 hcz9_3 hcz9_4 hfz9_0 hfz9_1 hfz9_2 hfz9_3 hfz9_4
        try clear c1
        try clear c2
        try clear p2
        try clear c4
        try clear c5
        try clear c10
        try clear c10b0
        try clear c15
        try clear c15b0
        try clear c15b1
        try clear c16
        try clear c16b0
        try clear c16b1
        try clear c19
        try clear c21
        try clear c21b0
        try clear c26
        try clear c26b0
        try clear c26b1
        try clear p2
        obtain ⟨kq, x65_22, rfl, HA, HJ22, HO_5, HO_9, BK459, HB⟩ := hcut
        cases kq with
        | zero => exact absurd HA.out (by simp [w08_TreeBelow.j3])
        | succ kj22 =>
         have H := HA.out
         clear HA
         simp only [w08_TreeBelow.j3] at H
         by_cases c31 : x65_22 = true
         ·subst c31
          have H1 : (some false) = some r := by rw [if_pos rfl] at H; exact H
          clear H
          have H := H1
          clear H1
          obtain rfl := Option.some.inj H
          go_wp2
          repeat (go_quiet (fail); try go_wp2)
          go_ret
          exact ⟨by first | rfl | (simp [errW_none, errW_some] <;> rfl) | (simp [*, errW_none, errW_some] <;> rfl), kB1 HB GE459⟩
         replace c31 := Bool.eq_false_iff.mpr c31
         subst c31
         have H1 : ((w08_in.f kj22 t466 x20_1).bind fun t472 => (if t472 = true then (w08_TreeBelow.l1 kj22 t460 x20_1 t462 (wrap64 (x7_3 + 1)) (l0_0.length : Int) x20_1 (l0_3.length : Int) (wrap64 (x46_3 + 1)) l0_0 l0_1 l0_2 l0_3 l0_4) else (w08_TreeBelow.l1 kj22 t460 x20_1 t462 x7_3 (l0_0.length : Int) x20_1 (l0_3.length : Int) (wrap64 (x46_3 + 1)) l0_0 l0_1 l0_2 l0_3 l0_4))) = some r := by rw [if_neg (show ¬ (false = true) by decide)] at H; exact H
         clear H
         have H := H1
         clear H1
         replace H := Option.bind_eq_some_iff.mp H
         obtain ⟨t472, A320, H⟩ := H
         replace H : (if t472 = true then (w08_TreeBelow.l1 kj22 t460 x20_1 t462 (wrap64 (x7_3 + 1)) (l0_0.length : Int) x20_1 (l0_3.length : Int) (wrap64 (x46_3 + 1)) l0_0 l0_1 l0_2 l0_3 l0_4) else (w08_TreeBelow.l1 kj22 t460 x20_1 t462 x7_3 (l0_0.length : Int) x20_1 (l0_3.length : Int) (wrap64 (x46_3 + 1)) l0_0 l0_1 l0_2 l0_3 l0_4)) = some r := H
         have A32 := Aside0.mk A320
         clear A320
         by_cases c33 : t472 = true
         ·subst c33
          have H1 : (w08_TreeBelow.l1 kj22 t460 x20_1 t462 (wrap64 (x7_3 + 1)) (l0_0.length : Int) x20_1 (l0_3.length : Int) (wrap64 (x46_3 + 1)) l0_0 l0_1 l0_2 l0_3 l0_4) = some r := by rw [if_pos rfl] at H; exact H
          clear H
          have H := H1
          clear H1
          have H' := Aside0.mk H
          clear H
          obtain ⟨Ao34, co34, eo34⟩ := Kd.R_slice HO_9.out
          subst eo34
          go_wp2_with (first | (go_at_call 21; (with_reducible refine (w08_in.calls kj22 _ _ t466 x20_1 true _ ?side1 ?side2 A32.out).mono ?_); (case side1 => repeat (first | exact (Kd.R_reads' HO_9.out).2.2 | (with_reducible refine Kd.C_alloc ?_ _) | (with_reducible refine Kd.C_drewN ?_ _) | (with_reducible refine Kd.C_drew ?_))); (case side2 => exact (Kd.R_reads' HO_9.out).2.1); rintro e w' ⟨rfl, ⟨nd, rfl⟩⟩; (try first | exact ⟨rfl, _, World.drewN_drewN _ _ _⟩ | exact ⟨rfl, _, Eq.trans (World.drewN_drewN _ _ _) (congrArg (World.drewN _) (Nat.add_assoc _ _ _))⟩)))
          repeat (go_quiet (first | (go_at_call 21; (with_reducible refine (w08_in.calls kj22 _ _ t466 x20_1 true _ ?side1 ?side2 A32.out).mono ?_); (case side1 => repeat (first | exact (Kd.R_reads' HO_9.out).2.2 | (with_reducible refine Kd.C_alloc ?_ _) | (with_reducible refine Kd.C_drewN ?_ _) | (with_reducible refine Kd.C_drew ?_))); (case side2 => exact (Kd.R_reads' HO_9.out).2.1); rintro e w' ⟨rfl, ⟨nd, rfl⟩⟩; (try first | exact ⟨rfl, _, World.drewN_drewN _ _ _⟩ | exact ⟨rfl, _, Eq.trans (World.drewN_drewN _ _ _) (congrArg (World.drewN _) (Nat.add_assoc _ _ _))⟩))); try go_wp2_with (first | (go_at_call 21; (with_reducible refine (w08_in.calls kj22 _ _ t466 x20_1 true _ ?side1 ?side2 A32.out).mono ?_); (case side1 => repeat (first | exact (Kd.R_reads' HO_9.out).2.2 | (with_reducible refine Kd.C_alloc ?_ _) | (with_reducible refine Kd.C_drewN ?_ _) | (with_reducible refine Kd.C_drew ?_))); (case side2 => exact (Kd.R_reads' HO_9.out).2.1); rintro e w' ⟨rfl, ⟨nd, rfl⟩⟩; (try first | exact ⟨rfl, _, World.drewN_drewN _ _ _⟩ | exact ⟨rfl, _, Eq.trans (World.drewN_drewN _ _ _) (congrArg (World.drewN _) (Nat.add_assoc _ _ _))⟩))))
          go_roundg kj22
          case measure => have := HK1.out; have := HJ11.out; have := HK3.out; have := HJ22.out; omega
          case rel => exact ⟨(wrap64 (x7_3 + 1)), (wrap64 (x46_3 + 1)), tQ, tQ, H', ⟨by have := HK1.out; have := HJ11.out; have := HK3.out; have := HJ22.out; omega⟩, ⟨by (with_reducible repeat (first | apply Kd.R_alloc | apply Kd.R_drewN | apply Kd.R_drew)); exact Kd.R_mono HO_5.out (fun _ hk => trivial)⟩, ⟨kK BK459⟩, ⟨kB1 HB GE459⟩⟩
         replace c33 := Bool.eq_false_iff.mpr c33
         subst c33
         have H1 : (w08_TreeBelow.l1 kj22 t460 x20_1 t462 x7_3 (l0_0.length : Int) x20_1 (l0_3.length : Int) (wrap64 (x46_3 + 1)) l0_0 l0_1 l0_2 l0_3 l0_4) = some r := by rw [if_neg (show ¬ (false = true) by decide)] at H; exact H
         clear H
         have H := H1
         clear H1
         have H' := Aside0.mk H
         clear H
         obtain ⟨Ao35, co35, eo35⟩ := Kd.R_slice HO_9.out
         subst eo35
         go_wp2_with (first | (go_at_call 21; (with_reducible refine (w08_in.calls kj22 _ _ t466 x20_1 false _ ?side1 ?side2 A32.out).mono ?_); (case side1 => repeat (first | exact (Kd.R_reads' HO_9.out).2.2 | (with_reducible refine Kd.C_alloc ?_ _) | (with_reducible refine Kd.C_drewN ?_ _) | (with_reducible refine Kd.C_drew ?_))); (case side2 => exact (Kd.R_reads' HO_9.out).2.1); rintro e w' ⟨rfl, ⟨nd, rfl⟩⟩; (try first | exact ⟨rfl, _, World.drewN_drewN _ _ _⟩ | exact ⟨rfl, _, Eq.trans (World.drewN_drewN _ _ _) (congrArg (World.drewN _) (Nat.add_assoc _ _ _))⟩)))
         repeat (go_quiet (first | (go_at_call 21; (with_reducible refine (w08_in.calls kj22 _ _ t466 x20_1 false _ ?side1 ?side2 A32.out).mono ?_); (case side1 => repeat (first | exact (Kd.R_reads' HO_9.out).2.2 | (with_reducible refine Kd.C_alloc ?_ _) | (with_reducible refine Kd.C_drewN ?_ _) | (with_reducible refine Kd.C_drew ?_))); (case side2 => exact (Kd.R_reads' HO_9.out).2.1); rintro e w' ⟨rfl, ⟨nd, rfl⟩⟩; (try first | exact ⟨rfl, _, World.drewN_drewN _ _ _⟩ | exact ⟨rfl, _, Eq.trans (World.drewN_drewN _ _ _) (congrArg (World.drewN _) (Nat.add_assoc _ _ _))⟩))); try go_wp2_with (first | (go_at_call 21; (with_reducible refine (w08_in.calls kj22 _ _ t466 x20_1 false _ ?side1 ?side2 A32.out).mono ?_); (case side1 => repeat (first | exact (Kd.R_reads' HO_9.out).2.2 | (with_reducible refine Kd.C_alloc ?_ _) | (with_reducible refine Kd.C_drewN ?_ _) | (with_reducible refine Kd.C_drew ?_))); (case side2 => exact (Kd.R_reads' HO_9.out).2.1); rintro e w' ⟨rfl, ⟨nd, rfl⟩⟩; (try first | exact ⟨rfl, _, World.drewN_drewN _ _ _⟩ | exact ⟨rfl, _, Eq.trans (World.drewN_drewN _ _ _) (congrArg (World.drewN _) (Nat.add_assoc _ _ _))⟩))))
         go_roundg kj22
         case measure => have := HK1.out; have := HJ11.out; have := HK3.out; have := HJ22.out; omega
         case rel => exact ⟨(x7_3), (wrap64 (x46_3 + 1)), tQ, tQ, H', ⟨by have := HK1.out; have := HJ11.out; have := HK3.out; have := HJ22.out; omega⟩, ⟨by (with_reducible repeat (first | apply Kd.R_alloc | apply Kd.R_drewN | apply Kd.R_drew)); exact Kd.R_mono HO_5.out (fun _ hk => trivial)⟩, ⟨kK BK459⟩, ⟨kB1 HB GE459⟩⟩
def w08_TreeBelow.Pure : Prop := ∀ (s0 : S28), (wfS28 s0) → ∃ k, w08_TreeBelow.f k s0.f0 s0.f1 s0.f2 s0.f3 s0.f4 = some true
theorem w08_TreeBelow.walk (P : w08_TreeBelow.Pure) (s0 : S28) (cs0 : Array Value) (w : World) (w0 : wfS28 s0) (K0 : k28.K w s0 cs0.toList) :
    Calls Try.prog 5 #[.agg cs0] w fun e w' => e = .returned (.bool true) ∧ Below w.heap.size w w' := by
 obtain ⟨k, h⟩ := P s0 w0
 obtain ⟨A0_0, e0_0, A0_1, e0_1, A0_2, e0_2, A0_3, e0_3, A0_4, e0_4, hs0, hl0_0, hC0_0, hl0_1, hC0_1, hl0_2, hC0_2, hl0_3, hC0_3, hl0_4, hC0_4⟩ := k28_open K0
 obtain ⟨L0⟩ := cs0
 obtain rfl : L0 = _ := hs0
 refine (w08_TreeBelow.calls k _ _ s0.f0 _ _ s0.f1 _ _ s0.f2 _ _ s0.f3 _ _ s0.f4 true w hC0_0 hl0_0 hC0_1 hl0_1 hC0_2 hl0_2 hC0_3 hl0_3 hC0_4 hl0_4 h).mono ?_
 rintro e w' ⟨rfl, hd⟩
 exact ⟨rfl, hd⟩
end Go.Proofs.Ytpdmnineampimaa.Q
