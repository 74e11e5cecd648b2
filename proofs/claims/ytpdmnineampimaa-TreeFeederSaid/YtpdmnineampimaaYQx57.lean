import Derived.Test.YtpdmnineampimaaYe
import Derived.Test.YtpdmnineampimaaYQx31
import Derived.Test.YtpdmnineampimaaYQx48
import Derived.Test.YtpdmnineampimaaYQx52
import Derived.Test.YtpdmnineampimaaYQx53
set_option linter.unusedVariables false
set_option linter.unusedSimpArgs false
namespace Go.Proofs.Ytpdmnineampimaa.Q
open Go.RowKit Go.Proofs.YtpdmnineampimaaW.PrintWords Go.Proofs.YtpdmnineampimaaW.PrintLast Go.Proofs.YtpdmnineampimaaW.PrintMore
attribute [local go_sem] max2_int min2_int max_two min_two max_three min_three max_four min_four
mutual
def w08_TreeFeeder.j0 : Nat → Bool → List Int → List (S55) → Bool → List (S48) → List (S62) → List (S84) → List (S42) → List (S87) → Option (Bool)
  | 0, _, _, _, _, _, _, _, _, _ => none
  | k + 1, x5, x6, x7, x35, x602000, x602001, x602002, x602003, x602004 => if x35 = true then (some false) else (w08_TreeFeeder.l0 k x5 x6 x7 0 x602003 (x602003.length : Int) 0)
def w08_TreeFeeder.l0 : Nat → Bool → List Int → List (S55) → Int → List (S42) → Int → Int → Option (Bool)
  | 0, _, _, _, _, _, _, _ => none
  | k + 1, x5, x6, x7, x9, x37, x38, x39 => if x39 < x38 then (if 0 ≤ x39 then (if x39 < (x37.length : Int) then (if x39 < (x6.length : Int) then (w08_TreeFeeder.l0 k x5 x6 x7 (wrap64 (x9 + (wrap64 ((rd x6 x39) * (wrap64 ((wrap64 ((Go.bits .and .i64 ((rd_T42 x37 x39).f2) 1) + (Go.bits .and .i64 (((rd_T42 x37 x39).f2) / 2) 1))) + (Go.bits .and .i64 (((rd_T42 x37 x39).f2) / 4) 1))))))) x37 x38 (wrap64 (x39 + 1))) else (none)) else (none)) else (none)) else (w08_TreeFeeder.l1 k x5 x7 x9 x7 (x7.length : Int) 0)
def w08_TreeFeeder.l1 : Nat → Bool → List (S55) → Int → List (S55) → Int → Int → Option (Bool)
  | 0, _, _, _, _, _, _ => none
  | k + 1, x5, x7, x9, x65, x66, x67 => if x67 < x66 then (if 0 ≤ x67 then (if x67 < (x65.length : Int) then (w08_TreeFeeder.l2 k x5 x7 x9 x65 x66 x67 0 ((rd_T55 x65 x67).f0) ((rd_T55 x65 x67).f1) ((rd_T55 x65 x67).f2)) else (none)) else (none)) else (if x5 = true then (if 0 < (x7.length : Int) then (some ((wrap64 ((wrap64 (((rd_T55 x7 0).f0) + ((rd_T55 x7 0).f1))) + ((rd_T55 x7 0).f2))) == x9)) else (none)) else (some false))
def w08_TreeFeeder.l2 : Nat → Bool → List (S55) → Int → List (S55) → Int → Int → Int → Int → Int → Int → Option (Bool)
  | 0, _, _, _, _, _, _, _, _, _, _ => none
  | k + 1, x5, x7, x9, x65, x66, x67, x71, x619000, x619001, x619002 => if x71 < 3 then (if x71 = 0 then (if 0 < (x7.length : Int) then (if x619000 > ((rd_T55 x7 0).f0) then (some false) else (w08_TreeFeeder.l2 k x5 x7 x9 x65 x66 x67 (wrap64 (x71 + 1)) x619000 x619001 x619002)) else (none)) else (if x71 = 1 then (if 0 < (x7.length : Int) then (if x619001 > ((rd_T55 x7 0).f1) then (some false) else (w08_TreeFeeder.l2 k x5 x7 x9 x65 x66 x67 (wrap64 (x71 + 1)) x619000 x619001 x619002)) else (none)) else (if x71 = 2 then (if 0 < (x7.length : Int) then (if x619002 > ((rd_T55 x7 0).f2) then (some false) else (w08_TreeFeeder.l2 k x5 x7 x9 x65 x66 x67 (wrap64 (x71 + 1)) x619000 x619001 x619002)) else (none)) else (none)))) else (w08_TreeFeeder.l1 k x5 x7 x9 x65 x66 (wrap64 (x67 + 1)))
end
def w08_TreeFeeder.f (k : Nat) (l0_0 : List (S48)) (l0_1 : List (S62)) (l0_2 : List (S84)) (l0_3 : List (S42)) (l0_4 : List (S87)) (l1 : List Int) : Option (Bool) := (w08_head.f k).bind fun t602 => ((w08_usable.f k l0_0 l0_1 l0_2 l0_3 l0_4).bind fun t603 => (if t603 = true then ((w08_currents.f k l0_0 l0_1 l0_2 l0_3 l0_4 l1).bind fun t604 => ((w08_loads.f l0_0 l0_1 l0_2 l0_3 l0_4 t604).bind fun bt607 => (if bt607.2 = true then (w08_TreeFeeder.j0 k t602 t604 bt607.1 ((bt607.1.length : Int) == 0) l0_0 l0_1 l0_2 l0_3 l0_4) else (w08_TreeFeeder.j0 k t602 t604 bt607.1 true l0_0 l0_1 l0_2 l0_3 l0_4)))) else (some t602)))
theorem w08_TreeFeeder.mono_l : ∀ k, (∀ y0 y1 y2 y3 y4 y5 y6 y7 y8, LeO (w08_TreeFeeder.j0 k y0 y1 y2 y3 y4 y5 y6 y7 y8) (w08_TreeFeeder.j0 (k + 1) y0 y1 y2 y3 y4 y5 y6 y7 y8)) ∧ (∀ y0 y1 y2 y3 y4 y5 y6, LeO (w08_TreeFeeder.l0 k y0 y1 y2 y3 y4 y5 y6) (w08_TreeFeeder.l0 (k + 1) y0 y1 y2 y3 y4 y5 y6)) ∧ (∀ y0 y1 y2 y3 y4 y5, LeO (w08_TreeFeeder.l1 k y0 y1 y2 y3 y4 y5) (w08_TreeFeeder.l1 (k + 1) y0 y1 y2 y3 y4 y5)) ∧ (∀ y0 y1 y2 y3 y4 y5 y6 y7 y8 y9, LeO (w08_TreeFeeder.l2 k y0 y1 y2 y3 y4 y5 y6 y7 y8 y9) (w08_TreeFeeder.l2 (k + 1) y0 y1 y2 y3 y4 y5 y6 y7 y8 y9))
  | 0 => ⟨fun _ _ _ _ _ _ _ _ _ r h => by simp [w08_TreeFeeder.j0] at h, fun _ _ _ _ _ _ _ r h => by simp [w08_TreeFeeder.l0] at h, fun _ _ _ _ _ _ r h => by simp [w08_TreeFeeder.l1] at h, fun _ _ _ _ _ _ _ _ _ _ r h => by simp [w08_TreeFeeder.l2] at h⟩
  | k + 1 => by
    obtain ⟨ih0, ih1, ih2, ih3⟩ := w08_TreeFeeder.mono_l k
    refine ⟨?_, ?_, ?_, ?_⟩
    · intro y0 y1 y2 y3 y4 y5 y6 y7 y8
      unfold w08_TreeFeeder.j0
      repeat' first
      | (with_reducible exact ih0 _ _ _ _ _ _ _ _ _)
      | (with_reducible exact ih1 _ _ _ _ _ _ _)
      | (with_reducible exact ih2 _ _ _ _ _ _)
      | (with_reducible exact ih3 _ _ _ _ _ _ _ _ _ _)
      | (with_reducible exact w08_currents.mono _ _ _ _ _ _ _)
      | (with_reducible exact w08_head.mono _)
      | (with_reducible exact w08_usable.mono _ _ _ _ _ _)
      | (with_reducible exact LeO.refl _)
      | (with_reducible exact LeO.none _)
      | (with_reducible refine LeO.ite ?_ ?_)
      | (with_reducible refine LeO.bind ?_ (fun _ => ?_))
      | exact ih0 _ _ _ _ _ _ _ _ _
      | exact ih1 _ _ _ _ _ _ _
      | exact ih2 _ _ _ _ _ _
      | exact ih3 _ _ _ _ _ _ _ _ _ _
      | exact w08_currents.mono _ _ _ _ _ _ _
      | exact w08_head.mono _
      | exact w08_usable.mono _ _ _ _ _ _
      | exact LeO.none _
      | refine LeO.ite ?_ ?_
      | refine LeO.bind ?_ (fun _ => ?_)
    · intro y0 y1 y2 y3 y4 y5 y6
      unfold w08_TreeFeeder.l0
      repeat' first
      | (with_reducible exact ih0 _ _ _ _ _ _ _ _ _)
      | (with_reducible exact ih1 _ _ _ _ _ _ _)
      | (with_reducible exact ih2 _ _ _ _ _ _)
      | (with_reducible exact ih3 _ _ _ _ _ _ _ _ _ _)
      | (with_reducible exact w08_currents.mono _ _ _ _ _ _ _)
      | (with_reducible exact w08_head.mono _)
      | (with_reducible exact w08_usable.mono _ _ _ _ _ _)
      | (with_reducible exact LeO.refl _)
      | (with_reducible exact LeO.none _)
      | (with_reducible refine LeO.ite ?_ ?_)
      | (with_reducible refine LeO.bind ?_ (fun _ => ?_))
      | exact ih0 _ _ _ _ _ _ _ _ _
      | exact ih1 _ _ _ _ _ _ _
      | exact ih2 _ _ _ _ _ _
      | exact ih3 _ _ _ _ _ _ _ _ _ _
      | exact w08_currents.mono _ _ _ _ _ _ _
      | exact w08_head.mono _
      | exact w08_usable.mono _ _ _ _ _ _
      | exact LeO.none _
      | refine LeO.ite ?_ ?_
      | refine LeO.bind ?_ (fun _ => ?_)
    · intro y0 y1 y2 y3 y4 y5
      unfold w08_TreeFeeder.l1
      repeat' first
      | (with_reducible exact ih0 _ _ _ _ _ _ _ _ _)
      | (with_reducible exact ih1 _ _ _ _ _ _ _)
      | (with_reducible exact ih2 _ _ _ _ _ _)
      | (with_reducible exact ih3 _ _ _ _ _ _ _ _ _ _)
      | (with_reducible exact w08_currents.mono _ _ _ _ _ _ _)
      | (with_reducible exact w08_head.mono _)
      | (with_reducible exact w08_usable.mono _ _ _ _ _ _)
      | (with_reducible exact LeO.refl _)
      | (with_reducible exact LeO.none _)
      | (with_reducible refine LeO.ite ?_ ?_)
      | (with_reducible refine LeO.bind ?_ (fun _ => ?_))
      | exact ih0 _ _ _ _ _ _ _ _ _
      | exact ih1 _ _ _ _ _ _ _
      | exact ih2 _ _ _ _ _ _
      | exact ih3 _ _ _ _ _ _ _ _ _ _
      | exact w08_currents.mono _ _ _ _ _ _ _
      | exact w08_head.mono _
      | exact w08_usable.mono _ _ _ _ _ _
      | exact LeO.none _
      | refine LeO.ite ?_ ?_
      | refine LeO.bind ?_ (fun _ => ?_)
    · intro y0 y1 y2 y3 y4 y5 y6 y7 y8 y9
      unfold w08_TreeFeeder.l2
      repeat' first
      | (with_reducible exact ih0 _ _ _ _ _ _ _ _ _)
      | (with_reducible exact ih1 _ _ _ _ _ _ _)
      | (with_reducible exact ih2 _ _ _ _ _ _)
      | (with_reducible exact ih3 _ _ _ _ _ _ _ _ _ _)
      | (with_reducible exact w08_currents.mono _ _ _ _ _ _ _)
      | (with_reducible exact w08_head.mono _)
      | (with_reducible exact w08_usable.mono _ _ _ _ _ _)
      | (with_reducible exact LeO.refl _)
      | (with_reducible exact LeO.none _)
      | (with_reducible refine LeO.ite ?_ ?_)
      | (with_reducible refine LeO.bind ?_ (fun _ => ?_))
      | exact ih0 _ _ _ _ _ _ _ _ _
      | exact ih1 _ _ _ _ _ _ _
      | exact ih2 _ _ _ _ _ _
      | exact ih3 _ _ _ _ _ _ _ _ _ _
      | exact w08_currents.mono _ _ _ _ _ _ _
      | exact w08_head.mono _
      | exact w08_usable.mono _ _ _ _ _ _
      | exact LeO.none _
      | refine LeO.ite ?_ ?_
      | refine LeO.bind ?_ (fun _ => ?_)
theorem w08_TreeFeeder.mono : ∀ a0 a1 a2 a3 a4 a5 k, LeO (w08_TreeFeeder.f k a0 a1 a2 a3 a4 a5) (w08_TreeFeeder.f (k + 1) a0 a1 a2 a3 a4 a5) := by
  intro a0 a1 a2 a3 a4 a5 k
  obtain ⟨ih0, ih1, ih2, ih3⟩ := w08_TreeFeeder.mono_l k
  unfold w08_TreeFeeder.f
  repeat' first
      | (with_reducible exact ih0 _ _ _ _ _ _ _ _ _)
      | (with_reducible exact ih1 _ _ _ _ _ _ _)
      | (with_reducible exact ih2 _ _ _ _ _ _)
      | (with_reducible exact ih3 _ _ _ _ _ _ _ _ _ _)
      | (with_reducible exact w08_currents.mono _ _ _ _ _ _ _)
      | (with_reducible exact w08_head.mono _)
      | (with_reducible exact w08_usable.mono _ _ _ _ _ _)
      | (with_reducible exact LeO.refl _)
      | (with_reducible exact LeO.none _)
      | (with_reducible refine LeO.ite ?_ ?_)
      | (with_reducible refine LeO.bind ?_ (fun _ => ?_))
      | exact ih0 _ _ _ _ _ _ _ _ _
      | exact ih1 _ _ _ _ _ _ _
      | exact ih2 _ _ _ _ _ _
      | exact ih3 _ _ _ _ _ _ _ _ _ _
      | exact w08_currents.mono _ _ _ _ _ _ _
      | exact w08_head.mono _
      | exact w08_usable.mono _ _ _ _ _ _
      | exact LeO.none _
      | refine LeO.ite ?_ ?_
      | refine LeO.bind ?_ (fun _ => ?_)
set_option maxHeartbeats 8000000 in
set_option maxRecDepth 100000 in
theorem w08_TreeFeeder.calls (k : Nat) (A0_0 : Option Addr) (c0_0 : Nat) (l0_0 : List (S48)) (A0_1 : Option Addr) (c0_1 : Nat) (l0_1 : List (S62)) (A0_2 : Option Addr) (c0_2 : Nat) (l0_2 : List (S84)) (A0_3 : Option Addr) (c0_3 : Nat) (l0_3 : List (S42)) (A0_4 : Option Addr) (c0_4 : Nat) (l0_4 : List (S87)) (A1 : Option Addr) (c1 : Nat) (l1 : List Int) (r : Bool) (w : World) (hr0_0 : Kd.C k48 w A0_0 l0_0.length l0_0) (hc0_0 : l0_0.length ≤ c0_0) (hr0_1 : Kd.C k62 w A0_1 l0_1.length l0_1) (hc0_1 : l0_1.length ≤ c0_1) (hr0_2 : Kd.C k84 w A0_2 l0_2.length l0_2) (hc0_2 : l0_2.length ≤ c0_2) (hr0_3 : Kd.C k42 w A0_3 l0_3.length l0_3) (hc0_3 : l0_3.length ≤ c0_3) (hr0_4 : Kd.C k87 w A0_4 l0_4.length l0_4) (hc0_4 : l0_4.length ≤ c0_4) (hr1 : Kd.C (Kd.int .u8) w A1 l1.length l1) (hc1 : l1.length ≤ c1) (h : w08_TreeFeeder.f k l0_0 l0_1 l0_2 l0_3 l0_4 l1 = some r) :
    Calls Try.prog 9 #[.agg #[.slice A0_0 l0_0.length c0_0, .slice A0_1 l0_1.length c0_1, .slice A0_2 l0_2.length c0_2, .slice A0_3 l0_3.length c0_3, .slice A0_4 l0_4.length c0_4], .slice A1 l1.length c1] w fun e w' => e = .returned (.bool r) ∧ Below w.heap.size w w' := by
 have hu28 := Try.underlying28
 have hu42 := Try.underlying42
 have hu55 := Try.underlying55
 have HR0_0 := Aside0.mk hr0_0
 have HC0_0 := Aside0.mk hc0_0
 clear hr0_0 hc0_0
 have HR0_1 := Aside0.mk hr0_1
 have HC0_1 := Aside0.mk hc0_1
 clear hr0_1 hc0_1
 have HR0_2 := Aside0.mk hr0_2
 have HC0_2 := Aside0.mk hc0_2
 clear hr0_2 hc0_2
 have HR0_3 := Aside0.mk hr0_3
 have HC0_3 := Aside0.mk hc0_3
 clear hr0_3 hc0_3
 have HR0_4 := Aside0.mk hr0_4
 have HC0_4 := Aside0.mk hc0_4
 clear hr0_4 hc0_4
 have HR1 := Aside0.mk hr1
 have HC1 := Aside0.mk hc1
 clear hr1 hc1
 have HB := Aside0.mk (Below.refl w.heap.size w)
 have H : ((w08_head.f k).bind fun t602 => ((w08_usable.f k l0_0 l0_1 l0_2 l0_3 l0_4).bind fun t603 => (if t603 = true then ((w08_currents.f k l0_0 l0_1 l0_2 l0_3 l0_4 l1).bind fun t604 => ((w08_loads.f l0_0 l0_1 l0_2 l0_3 l0_4 t604).bind fun bt607 => (if bt607.2 = true then (w08_TreeFeeder.j0 k t602 t604 bt607.1 ((bt607.1.length : Int) == 0) l0_0 l0_1 l0_2 l0_3 l0_4) else (w08_TreeFeeder.j0 k t602 t604 bt607.1 true l0_0 l0_1 l0_2 l0_3 l0_4)))) else (some t602)))) = some r := h
 clear h
 replace H := Option.bind_eq_some_iff.mp H
 obtain ⟨t602, A30, H⟩ := H
 replace H : ((w08_usable.f k l0_0 l0_1 l0_2 l0_3 l0_4).bind fun t603 => (if t603 = true then ((w08_currents.f k l0_0 l0_1 l0_2 l0_3 l0_4 l1).bind fun t604 => ((w08_loads.f l0_0 l0_1 l0_2 l0_3 l0_4 t604).bind fun bt607 => (if bt607.2 = true then (w08_TreeFeeder.j0 k t602 t604 bt607.1 ((bt607.1.length : Int) == 0) l0_0 l0_1 l0_2 l0_3 l0_4) else (w08_TreeFeeder.j0 k t602 t604 bt607.1 true l0_0 l0_1 l0_2 l0_3 l0_4)))) else (some t602))) = some r := H
 have A3 := Aside0.mk A30
 clear A30
 replace H := Option.bind_eq_some_iff.mp H
 obtain ⟨t603, A40, H⟩ := H
 replace H : (if t603 = true then ((w08_currents.f k l0_0 l0_1 l0_2 l0_3 l0_4 l1).bind fun t604 => ((w08_loads.f l0_0 l0_1 l0_2 l0_3 l0_4 t604).bind fun bt607 => (if bt607.2 = true then (w08_TreeFeeder.j0 k t602 t604 bt607.1 ((bt607.1.length : Int) == 0) l0_0 l0_1 l0_2 l0_3 l0_4) else (w08_TreeFeeder.j0 k t602 t604 bt607.1 true l0_0 l0_1 l0_2 l0_3 l0_4)))) else (some t602)) = some r := H
 have A4 := Aside0.mk A40
 clear A40
 by_cases c5 : t603 = true
 rotate_left
 ·replace c5 := Bool.eq_false_iff.mpr c5
  subst c5
  have H1 : (some t602) = some r := by rw [if_neg (show ¬ (false = true) by decide)] at H; exact H
  clear H
  have H := H1
  clear H1
  obtain rfl := Option.some.inj H
  go_enter Try.func9, Try.ntmps9
  go_wp2_with (first | ((with_reducible refine gate_dst (N := 2) rfl ?_); (try (refine gate_guard (by rfl) ?_; dsimp only)); refine box_event ?hg (N := 2) ?hd (cs := #[.slice A0_0 l0_0.length c0_0, .slice A0_1 l0_1.length c0_1, .slice A0_2 l0_2.length c0_2, .slice A0_3 l0_3.length c0_3, .slice A0_4 l0_4.length c0_4]) (t := 28) ?hr ?_; (case hd => rfl); (case hg => rfl); (case hr => first | (go_simp; done) | (go_simp; rfl)); intro gb601 hg w60 hbox hb; have n0_ := Aside0.mk (below_step (kB HB) hb); have n1_ := Aside0.mk (hbox); have n2_ := Aside0.mk ((by rw [hg]; exact (below_size (kB HB)) : w.heap.size ≤ gb601)); have n3_ := Aside0.mk ((by rw [hg]; exact (below_size (kB HB)) : w.heap.size ≤ gb601)); clear HB; have HB := n0_; have BK601 := n1_; have GW601 := n2_; have GE601 := n3_; clear n0_ n1_ n2_ n3_; clear hb hbox hg) | (go_at_call 10; (with_reducible refine (w08_head.calls k  t602 _ A3.out).mono ?_); rintro e w61 ⟨rfl, hb⟩; have n0_ := Aside0.mk (blk_below (g := gb601) (o := .cells #[.slice A0_0 l0_0.length c0_0, .slice A0_1 l0_1.length c0_1, .slice A0_2 l0_2.length c0_2, .slice A0_3 l0_3.length c0_3, .slice A0_4 l0_4.length c0_4] 28 (0, 0)) (kK BK601) hb); have n1_ := Aside0.mk (below_step (kB1 HB GE601) hb); clear BK601; clear HB; have BK601 := n0_; have HB := n1_; clear n0_ n1_; obtain ⟨⟨hcz62_0, hcz62_1, hcz62_2, hcz62_3, hcz62_4⟩, hfz62_0, hfz62_1, hfz62_2, hfz62_3, hfz62_4⟩ := bx5 BK601) | (go_at_call 20; (with_reducible refine (w08_usable.calls k _ _ l0_0 _ _ l0_1 _ _ l0_2 _ _ l0_3 _ _ l0_4 false _ ?side1 ?side2 ?side3 ?side4 ?side5 ?side6 ?side7 ?side8 ?side9 ?side10 A4.out).mono ?_); (case side1 => repeat (first | exact (Kd.C_below HR0_0.out HB.out) | (with_reducible refine Kd.C_alloc ?_ _) | (with_reducible refine Kd.C_drewN ?_ _) | (with_reducible refine Kd.C_drew ?_))); (case side2 => exact HC0_0.out); (case side3 => repeat (first | exact (Kd.C_below HR0_1.out HB.out) | (with_reducible refine Kd.C_alloc ?_ _) | (with_reducible refine Kd.C_drewN ?_ _) | (with_reducible refine Kd.C_drew ?_))); (case side4 => exact HC0_1.out); (case side5 => repeat (first | exact (Kd.C_below HR0_2.out HB.out) | (with_reducible refine Kd.C_alloc ?_ _) | (with_reducible refine Kd.C_drewN ?_ _) | (with_reducible refine Kd.C_drew ?_))); (case side6 => exact HC0_2.out); (case side7 => repeat (first | exact (Kd.C_below HR0_3.out HB.out) | (with_reducible refine Kd.C_alloc ?_ _) | (with_reducible refine Kd.C_drewN ?_ _) | (with_reducible refine Kd.C_drew ?_))); (case side8 => exact HC0_3.out); (case side9 => repeat (first | exact (Kd.C_below HR0_4.out HB.out) | (with_reducible refine Kd.C_alloc ?_ _) | (with_reducible refine Kd.C_drewN ?_ _) | (with_reducible refine Kd.C_drew ?_))); (case side10 => exact HC0_4.out); rintro e w63 ⟨rfl, hb⟩; have n0_ := Aside0.mk (blk_below (g := gb601) (o := .cells #[.slice A0_0 l0_0.length c0_0, .slice A0_1 l0_1.length c0_1, .slice A0_2 l0_2.length c0_2, .slice A0_3 l0_3.length c0_3, .slice A0_4 l0_4.length c0_4] 28 (0, 0)) (kK BK601) hb); have n1_ := Aside0.mk (below_step (kB1 HB GE601) hb); clear BK601; clear HB; have BK601 := n0_; have HB := n1_; clear n0_ n1_))
  repeat (go_quiet (first | ((with_reducible refine gate_dst (N := 2) rfl ?_); (try (refine gate_guard (by rfl) ?_; dsimp only)); refine box_event ?hg (N := 2) ?hd (cs := #[.slice A0_0 l0_0.length c0_0, .slice A0_1 l0_1.length c0_1, .slice A0_2 l0_2.length c0_2, .slice A0_3 l0_3.length c0_3, .slice A0_4 l0_4.length c0_4]) (t := 28) ?hr ?_; (case hd => rfl); (case hg => rfl); (case hr => first | (go_simp; done) | (go_simp; rfl)); intro gb601 hg w60 hbox hb; have n0_ := Aside0.mk (below_step (kB HB) hb); have n1_ := Aside0.mk (hbox); have n2_ := Aside0.mk ((by rw [hg]; exact (below_size (kB HB)) : w.heap.size ≤ gb601)); have n3_ := Aside0.mk ((by rw [hg]; exact (below_size (kB HB)) : w.heap.size ≤ gb601)); clear HB; have HB := n0_; have BK601 := n1_; have GW601 := n2_; have GE601 := n3_; clear n0_ n1_ n2_ n3_; clear hb hbox hg) | (go_at_call 10; (with_reducible refine (w08_head.calls k  t602 _ A3.out).mono ?_); rintro e w61 ⟨rfl, hb⟩; have n0_ := Aside0.mk (blk_below (g := gb601) (o := .cells #[.slice A0_0 l0_0.length c0_0, .slice A0_1 l0_1.length c0_1, .slice A0_2 l0_2.length c0_2, .slice A0_3 l0_3.length c0_3, .slice A0_4 l0_4.length c0_4] 28 (0, 0)) (kK BK601) hb); have n1_ := Aside0.mk (below_step (kB1 HB GE601) hb); clear BK601; clear HB; have BK601 := n0_; have HB := n1_; clear n0_ n1_; obtain ⟨⟨hcz62_0, hcz62_1, hcz62_2, hcz62_3, hcz62_4⟩, hfz62_0, hfz62_1, hfz62_2, hfz62_3, hfz62_4⟩ := bx5 BK601) | (go_at_call 20; (with_reducible refine (w08_usable.calls k _ _ l0_0 _ _ l0_1 _ _ l0_2 _ _ l0_3 _ _ l0_4 false _ ?side1 ?side2 ?side3 ?side4 ?side5 ?side6 ?side7 ?side8 ?side9 ?side10 A4.out).mono ?_); (case side1 => repeat (first | exact (Kd.C_below HR0_0.out HB.out) | (with_reducible refine Kd.C_alloc ?_ _) | (with_reducible refine Kd.C_drewN ?_ _) | (with_reducible refine Kd.C_drew ?_))); (case side2 => exact HC0_0.out); (case side3 => repeat (first | exact (Kd.C_below HR0_1.out HB.out) | (with_reducible refine Kd.C_alloc ?_ _) | (with_reducible refine Kd.C_drewN ?_ _) | (with_reducible refine Kd.C_drew ?_))); (case side4 => exact HC0_1.out); (case side5 => repeat (first | exact (Kd.C_below HR0_2.out HB.out) | (with_reducible refine Kd.C_alloc ?_ _) | (with_reducible refine Kd.C_drewN ?_ _) | (with_reducible refine Kd.C_drew ?_))); (case side6 => exact HC0_2.out); (case side7 => repeat (first | exact (Kd.C_below HR0_3.out HB.out) | (with_reducible refine Kd.C_alloc ?_ _) | (with_reducible refine Kd.C_drewN ?_ _) | (with_reducible refine Kd.C_drew ?_))); (case side8 => exact HC0_3.out); (case side9 => repeat (first | exact (Kd.C_below HR0_4.out HB.out) | (with_reducible refine Kd.C_alloc ?_ _) | (with_reducible refine Kd.C_drewN ?_ _) | (with_reducible refine Kd.C_drew ?_))); (case side10 => exact HC0_4.out); rintro e w63 ⟨rfl, hb⟩; have n0_ := Aside0.mk (blk_below (g := gb601) (o := .cells #[.slice A0_0 l0_0.length c0_0, .slice A0_1 l0_1.length c0_1, .slice A0_2 l0_2.length c0_2, .slice A0_3 l0_3.length c0_3, .slice A0_4 l0_4.length c0_4] 28 (0, 0)) (kK BK601) hb); have n1_ := Aside0.mk (below_step (kB1 HB GE601) hb); clear BK601; clear HB; have BK601 := n0_; have HB := n1_; clear n0_ n1_)); try go_wp2_with (first | ((with_reducible refine gate_dst (N := 2) rfl ?_); (try (refine gate_guard (by rfl) ?_; dsimp only)); refine box_event ?hg (N := 2) ?hd (cs := #[.slice A0_0 l0_0.length c0_0, .slice A0_1 l0_1.length c0_1, .slice A0_2 l0_2.length c0_2, .slice A0_3 l0_3.length c0_3, .slice A0_4 l0_4.length c0_4]) (t := 28) ?hr ?_; (case hd => rfl); (case hg => rfl); (case hr => first | (go_simp; done) | (go_simp; rfl)); intro gb601 hg w60 hbox hb; have n0_ := Aside0.mk (below_step (kB HB) hb); have n1_ := Aside0.mk (hbox); have n2_ := Aside0.mk ((by rw [hg]; exact (below_size (kB HB)) : w.heap.size ≤ gb601)); have n3_ := Aside0.mk ((by rw [hg]; exact (below_size (kB HB)) : w.heap.size ≤ gb601)); clear HB; have HB := n0_; have BK601 := n1_; have GW601 := n2_; have GE601 := n3_; clear n0_ n1_ n2_ n3_; clear hb hbox hg) | (go_at_call 10; (with_reducible refine (w08_head.calls k  t602 _ A3.out).mono ?_); rintro e w61 ⟨rfl, hb⟩; have n0_ := Aside0.mk (blk_below (g := gb601) (o := .cells #[.slice A0_0 l0_0.length c0_0, .slice A0_1 l0_1.length c0_1, .slice A0_2 l0_2.length c0_2, .slice A0_3 l0_3.length c0_3, .slice A0_4 l0_4.length c0_4] 28 (0, 0)) (kK BK601) hb); have n1_ := Aside0.mk (below_step (kB1 HB GE601) hb); clear BK601; clear HB; have BK601 := n0_; have HB := n1_; clear n0_ n1_; obtain ⟨⟨hcz62_0, hcz62_1, hcz62_2, hcz62_3, hcz62_4⟩, hfz62_0, hfz62_1, hfz62_2, hfz62_3, hfz62_4⟩ := bx5 BK601) | (go_at_call 20; (with_reducible refine (w08_usable.calls k _ _ l0_0 _ _ l0_1 _ _ l0_2 _ _ l0_3 _ _ l0_4 false _ ?side1 ?side2 ?side3 ?side4 ?side5 ?side6 ?side7 ?side8 ?side9 ?side10 A4.out).mono ?_); (case side1 => repeat (first | exact (Kd.C_below HR0_0.out HB.out) | (with_reducible refine Kd.C_alloc ?_ _) | (with_reducible refine Kd.C_drewN ?_ _) | (with_reducible refine Kd.C_drew ?_))); (case side2 => exact HC0_0.out); (case side3 => repeat (first | exact (Kd.C_below HR0_1.out HB.out) | (with_reducible refine Kd.C_alloc ?_ _) | (with_reducible refine Kd.C_drewN ?_ _) | (with_reducible refine Kd.C_drew ?_))); (case side4 => exact HC0_1.out); (case side5 => repeat (first | exact (Kd.C_below HR0_2.out HB.out) | (with_reducible refine Kd.C_alloc ?_ _) | (with_reducible refine Kd.C_drewN ?_ _) | (with_reducible refine Kd.C_drew ?_))); (case side6 => exact HC0_2.out); (case side7 => repeat (first | exact (Kd.C_below HR0_3.out HB.out) | (with_reducible refine Kd.C_alloc ?_ _) | (with_reducible refine Kd.C_drewN ?_ _) | (with_reducible refine Kd.C_drew ?_))); (case side8 => exact HC0_3.out); (case side9 => repeat (first | exact (Kd.C_below HR0_4.out HB.out) | (with_reducible refine Kd.C_alloc ?_ _) | (with_reducible refine Kd.C_drewN ?_ _) | (with_reducible refine Kd.C_drew ?_))); (case side10 => exact HC0_4.out); rintro e w63 ⟨rfl, hb⟩; have n0_ := Aside0.mk (blk_below (g := gb601) (o := .cells #[.slice A0_0 l0_0.length c0_0, .slice A0_1 l0_1.length c0_1, .slice A0_2 l0_2.length c0_2, .slice A0_3 l0_3.length c0_3, .slice A0_4 l0_4.length c0_4] 28 (0, 0)) (kK BK601) hb); have n1_ := Aside0.mk (below_step (kB1 HB GE601) hb); clear BK601; clear HB; have BK601 := n0_; have HB := n1_; clear n0_ n1_)))
  go_ret
  exact ⟨by first | rfl | (simp [errW_none, errW_some] <;> rfl) | (simp [*, errW_none, errW_some] <;> rfl), kB1 HB GE601⟩
 subst c5
 have H1 : ((w08_currents.f k l0_0 l0_1 l0_2 l0_3 l0_4 l1).bind fun t604 => ((w08_loads.f l0_0 l0_1 l0_2 l0_3 l0_4 t604).bind fun bt607 => (if bt607.2 = true then (w08_TreeFeeder.j0 k t602 t604 bt607.1 ((bt607.1.length : Int) == 0) l0_0 l0_1 l0_2 l0_3 l0_4) else (w08_TreeFeeder.j0 k t602 t604 bt607.1 true l0_0 l0_1 l0_2 l0_3 l0_4)))) = some r := by rw [if_pos rfl] at H; exact H
 clear H
 have H := H1
 clear H1
 replace H := Option.bind_eq_some_iff.mp H
 obtain ⟨t604, A60, H⟩ := H
 replace H : ((w08_loads.f l0_0 l0_1 l0_2 l0_3 l0_4 t604).bind fun bt607 => (if bt607.2 = true then (w08_TreeFeeder.j0 k t602 t604 bt607.1 ((bt607.1.length : Int) == 0) l0_0 l0_1 l0_2 l0_3 l0_4) else (w08_TreeFeeder.j0 k t602 t604 bt607.1 true l0_0 l0_1 l0_2 l0_3 l0_4))) = some r := H
 have A6 := Aside0.mk A60
 clear A60
 replace H := Option.bind_eq_some_iff.mp H
 obtain ⟨⟨t607, t610⟩, A70, H⟩ := H
 replace H : (if t610 = true then (w08_TreeFeeder.j0 k t602 t604 t607 ((t607.length : Int) == 0) l0_0 l0_1 l0_2 l0_3 l0_4) else (w08_TreeFeeder.j0 k t602 t604 t607 true l0_0 l0_1 l0_2 l0_3 l0_4)) = some r := H
 have A7 := Aside0.mk A70
 clear A70
 have HC8 := Aside0.mk H
 clear H
 go_enter Try.func9, Try.ntmps9
 go_upto_region 6 with (first | ((with_reducible refine gate_dst (N := 2) rfl ?_); (try (refine gate_guard (by rfl) ?_; dsimp only)); refine box_event ?hg (N := 2) ?hd (cs := #[.slice A0_0 l0_0.length c0_0, .slice A0_1 l0_1.length c0_1, .slice A0_2 l0_2.length c0_2, .slice A0_3 l0_3.length c0_3, .slice A0_4 l0_4.length c0_4]) (t := 28) ?hr ?_; (case hd => rfl); (case hg => rfl); (case hr => first | (go_simp; done) | (go_simp; rfl)); intro gb601 hg w9 hbox hb; have n0_ := Aside0.mk (below_step (kB HB) hb); have n1_ := Aside0.mk (hbox); have n2_ := Aside0.mk ((by rw [hg]; exact (below_size (kB HB)) : w.heap.size ≤ gb601)); have n3_ := Aside0.mk ((by rw [hg]; exact (below_size (kB HB)) : w.heap.size ≤ gb601)); clear HB; have HB := n0_; have BK601 := n1_; have GW601 := n2_; have GE601 := n3_; clear n0_ n1_ n2_ n3_; clear hb hbox hg) | (go_at_call 10; (with_reducible refine (w08_head.calls k  t602 _ A3.out).mono ?_); rintro e w10 ⟨rfl, hb⟩; have n0_ := Aside0.mk (blk_below (g := gb601) (o := .cells #[.slice A0_0 l0_0.length c0_0, .slice A0_1 l0_1.length c0_1, .slice A0_2 l0_2.length c0_2, .slice A0_3 l0_3.length c0_3, .slice A0_4 l0_4.length c0_4] 28 (0, 0)) (kK BK601) hb); have n1_ := Aside0.mk (below_step (kB1 HB GE601) hb); clear BK601; clear HB; have BK601 := n0_; have HB := n1_; clear n0_ n1_; obtain ⟨⟨hcz11_0, hcz11_1, hcz11_2, hcz11_3, hcz11_4⟩, hfz11_0, hfz11_1, hfz11_2, hfz11_3, hfz11_4⟩ := bx5 BK601) | (go_at_call 20; (with_reducible refine (w08_usable.calls k _ _ l0_0 _ _ l0_1 _ _ l0_2 _ _ l0_3 _ _ l0_4 true _ ?side1 ?side2 ?side3 ?side4 ?side5 ?side6 ?side7 ?side8 ?side9 ?side10 A4.out).mono ?_); (case side1 => repeat (first | exact (Kd.C_below HR0_0.out HB.out) | (with_reducible refine Kd.C_alloc ?_ _) | (with_reducible refine Kd.C_drewN ?_ _) | (with_reducible refine Kd.C_drew ?_))); (case side2 => exact HC0_0.out); (case side3 => repeat (first | exact (Kd.C_below HR0_1.out HB.out) | (with_reducible refine Kd.C_alloc ?_ _) | (with_reducible refine Kd.C_drewN ?_ _) | (with_reducible refine Kd.C_drew ?_))); (case side4 => exact HC0_1.out); (case side5 => repeat (first | exact (Kd.C_below HR0_2.out HB.out) | (with_reducible refine Kd.C_alloc ?_ _) | (with_reducible refine Kd.C_drewN ?_ _) | (with_reducible refine Kd.C_drew ?_))); (case side6 => exact HC0_2.out); (case side7 => repeat (first | exact (Kd.C_below HR0_3.out HB.out) | (with_reducible refine Kd.C_alloc ?_ _) | (with_reducible refine Kd.C_drewN ?_ _) | (with_reducible refine Kd.C_drew ?_))); (case side8 => exact HC0_3.out); (case side9 => repeat (first | exact (Kd.C_below HR0_4.out HB.out) | (with_reducible refine Kd.C_alloc ?_ _) | (with_reducible refine Kd.C_drewN ?_ _) | (with_reducible refine Kd.C_drew ?_))); (case side10 => exact HC0_4.out); rintro e w12 ⟨rfl, hb⟩; have n0_ := Aside0.mk (blk_below (g := gb601) (o := .cells #[.slice A0_0 l0_0.length c0_0, .slice A0_1 l0_1.length c0_1, .slice A0_2 l0_2.length c0_2, .slice A0_3 l0_3.length c0_3, .slice A0_4 l0_4.length c0_4] 28 (0, 0)) (kK BK601) hb); have n1_ := Aside0.mk (below_step (kB1 HB GE601) hb); clear BK601; clear HB; have BK601 := n0_; have HB := n1_; clear n0_ n1_; obtain ⟨⟨hcz13_0, hcz13_1, hcz13_2, hcz13_3, hcz13_4⟩, hfz13_0, hfz13_1, hfz13_2, hfz13_3, hfz13_4⟩ := bx5 BK601) | (go_at_call 22; (with_reducible refine (w08_currents.calls k _ _ l0_0 _ _ l0_1 _ _ l0_2 _ _ l0_3 _ _ l0_4 _ _ l1 t604 _ ?side1 ?side2 ?side3 ?side4 ?side5 ?side6 ?side7 ?side8 ?side9 ?side10 ?side11 ?side12 A6.out).mono ?_); (case side1 => repeat (first | exact (Kd.C_below HR0_0.out HB.out) | (with_reducible refine Kd.C_alloc ?_ _) | (with_reducible refine Kd.C_drewN ?_ _) | (with_reducible refine Kd.C_drew ?_))); (case side2 => exact HC0_0.out); (case side3 => repeat (first | exact (Kd.C_below HR0_1.out HB.out) | (with_reducible refine Kd.C_alloc ?_ _) | (with_reducible refine Kd.C_drewN ?_ _) | (with_reducible refine Kd.C_drew ?_))); (case side4 => exact HC0_1.out); (case side5 => repeat (first | exact (Kd.C_below HR0_2.out HB.out) | (with_reducible refine Kd.C_alloc ?_ _) | (with_reducible refine Kd.C_drewN ?_ _) | (with_reducible refine Kd.C_drew ?_))); (case side6 => exact HC0_2.out); (case side7 => repeat (first | exact (Kd.C_below HR0_3.out HB.out) | (with_reducible refine Kd.C_alloc ?_ _) | (with_reducible refine Kd.C_drewN ?_ _) | (with_reducible refine Kd.C_drew ?_))); (case side8 => exact HC0_3.out); (case side9 => repeat (first | exact (Kd.C_below HR0_4.out HB.out) | (with_reducible refine Kd.C_alloc ?_ _) | (with_reducible refine Kd.C_drewN ?_ _) | (with_reducible refine Kd.C_drew ?_))); (case side10 => exact HC0_4.out); (case side11 => repeat (first | exact (Kd.C_below HR1.out HB.out) | (with_reducible refine Kd.C_alloc ?_ _) | (with_reducible refine Kd.C_drewN ?_ _) | (with_reducible refine Kd.C_drew ?_))); (case side12 => exact HC1.out); rintro e w14 ⟨v605, rfl, ho0, hb⟩; have n0_ := Aside0.mk (Kd.R_lower ho0 (below_size (kB1 HB GE601))); have n1_ := Aside0.mk (blk_below (g := gb601) (o := .cells #[.slice A0_0 l0_0.length c0_0, .slice A0_1 l0_1.length c0_1, .slice A0_2 l0_2.length c0_2, .slice A0_3 l0_3.length c0_3, .slice A0_4 l0_4.length c0_4] 28 (0, 0)) (kK BK601) hb); have n2_ := Aside0.mk (below_step (kB1 HB GE601) hb); clear BK601; clear HB; have HO606 := n0_; have BK601 := n1_; have HB := n2_; clear n0_ n1_ n2_; obtain ⟨⟨hcz15_0, hcz15_1, hcz15_2, hcz15_3, hcz15_4⟩, hfz15_0, hfz15_1, hfz15_2, hfz15_3, hfz15_4⟩ := bx5 BK601; obtain ⟨Ao16, co16, eo16⟩ := Kd.R_slice HO606.out; subst eo16) | (go_at_call 23; (with_reducible refine (w08_loads.calls _ _ l0_0 _ _ l0_1 _ _ l0_2 _ _ l0_3 _ _ l0_4 _ _ t604 t607 t610 _ ?side1 ?side2 ?side3 ?side4 ?side5 ?side6 ?side7 ?side8 ?side9 ?side10 ?side11 ?side12 A7.out).mono ?_); (case side1 => repeat (first | exact (Kd.C_below HR0_0.out HB.out) | (with_reducible refine Kd.C_alloc ?_ _) | (with_reducible refine Kd.C_drewN ?_ _) | (with_reducible refine Kd.C_drew ?_))); (case side2 => exact HC0_0.out); (case side3 => repeat (first | exact (Kd.C_below HR0_1.out HB.out) | (with_reducible refine Kd.C_alloc ?_ _) | (with_reducible refine Kd.C_drewN ?_ _) | (with_reducible refine Kd.C_drew ?_))); (case side4 => exact HC0_1.out); (case side5 => repeat (first | exact (Kd.C_below HR0_2.out HB.out) | (with_reducible refine Kd.C_alloc ?_ _) | (with_reducible refine Kd.C_drewN ?_ _) | (with_reducible refine Kd.C_drew ?_))); (case side6 => exact HC0_2.out); (case side7 => repeat (first | exact (Kd.C_below HR0_3.out HB.out) | (with_reducible refine Kd.C_alloc ?_ _) | (with_reducible refine Kd.C_drewN ?_ _) | (with_reducible refine Kd.C_drew ?_))); (case side8 => exact HC0_3.out); (case side9 => repeat (first | exact (Kd.C_below HR0_4.out HB.out) | (with_reducible refine Kd.C_alloc ?_ _) | (with_reducible refine Kd.C_drewN ?_ _) | (with_reducible refine Kd.C_drew ?_))); (case side10 => exact HC0_4.out); (case side11 => exact kC (Kd.R_reads' HO606.out).2.2); (case side12 => exact (Kd.R_reads' HO606.out).2.1); rintro e w17 ⟨v608, rfl, ho0, hb⟩; have n0_ := Aside0.mk (Kd.R_below (kR HO606) hb); have n1_ := Aside0.mk (Kd.R_lower ho0 (below_size (kB1 HB GE601))); have n2_ := Aside0.mk (blk_below (g := gb601) (o := .cells #[.slice A0_0 l0_0.length c0_0, .slice A0_1 l0_1.length c0_1, .slice A0_2 l0_2.length c0_2, .slice A0_3 l0_3.length c0_3, .slice A0_4 l0_4.length c0_4] 28 (0, 0)) (kK BK601) hb); have n3_ := Aside0.mk (below_step (kB1 HB GE601) hb); clear HO606; clear BK601; clear HB; have HO606 := n0_; have HO609 := n1_; have BK601 := n2_; have HB := n3_; clear n0_ n1_ n2_ n3_))
 repeat (go_quiet (first | ((with_reducible refine gate_dst (N := 2) rfl ?_); (try (refine gate_guard (by rfl) ?_; dsimp only)); refine box_event ?hg (N := 2) ?hd (cs := #[.slice A0_0 l0_0.length c0_0, .slice A0_1 l0_1.length c0_1, .slice A0_2 l0_2.length c0_2, .slice A0_3 l0_3.length c0_3, .slice A0_4 l0_4.length c0_4]) (t := 28) ?hr ?_; (case hd => rfl); (case hg => rfl); (case hr => first | (go_simp; done) | (go_simp; rfl)); intro gb601 hg w9 hbox hb; have n0_ := Aside0.mk (below_step (kB HB) hb); have n1_ := Aside0.mk (hbox); have n2_ := Aside0.mk ((by rw [hg]; exact (below_size (kB HB)) : w.heap.size ≤ gb601)); have n3_ := Aside0.mk ((by rw [hg]; exact (below_size (kB HB)) : w.heap.size ≤ gb601)); clear HB; have HB := n0_; have BK601 := n1_; have GW601 := n2_; have GE601 := n3_; clear n0_ n1_ n2_ n3_; clear hb hbox hg) | (go_at_call 10; (with_reducible refine (w08_head.calls k  t602 _ A3.out).mono ?_); rintro e w10 ⟨rfl, hb⟩; have n0_ := Aside0.mk (blk_below (g := gb601) (o := .cells #[.slice A0_0 l0_0.length c0_0, .slice A0_1 l0_1.length c0_1, .slice A0_2 l0_2.length c0_2, .slice A0_3 l0_3.length c0_3, .slice A0_4 l0_4.length c0_4] 28 (0, 0)) (kK BK601) hb); have n1_ := Aside0.mk (below_step (kB1 HB GE601) hb); clear BK601; clear HB; have BK601 := n0_; have HB := n1_; clear n0_ n1_; obtain ⟨⟨hcz11_0, hcz11_1, hcz11_2, hcz11_3, hcz11_4⟩, hfz11_0, hfz11_1, hfz11_2, hfz11_3, hfz11_4⟩ := bx5 BK601) | (go_at_call 20; (with_reducible refine (w08_usable.calls k _ _ l0_0 _ _ l0_1 _ _ l0_2 _ _ l0_3 _ _ l0_4 true _ ?side1 ?side2 ?side3 ?side4 ?side5 ?side6 ?side7 ?side8 ?side9 ?side10 A4.out).mono ?_); (case side1 => repeat (first | exact (Kd.C_below HR0_0.out HB.out) | (with_reducible refine Kd.C_alloc ?_ _) | (with_reducible refine Kd.C_drewN ?_ _) | (with_reducible refine Kd.C_drew ?_))); (case side2 => exact HC0_0.out); (case side3 => repeat (first | exact (Kd.C_below HR0_1.out HB.out) | (with_reducible refine Kd.C_alloc ?_ _) | (with_reducible refine Kd.C_drewN ?_ _) | (with_reducible refine Kd.C_drew ?_))); (case side4 => exact HC0_1.out); (case side5 => repeat (first | exact (Kd.C_below HR0_2.out HB.out) | (with_reducible refine Kd.C_alloc ?_ _) | (with_reducible refine Kd.C_drewN ?_ _) | (with_reducible refine Kd.C_drew ?_))); (case side6 => exact HC0_2.out); (case side7 => repeat (first | exact (Kd.C_below HR0_3.out HB.out) | (with_reducible refine Kd.C_alloc ?_ _) | (with_reducible refine Kd.C_drewN ?_ _) | (with_reducible refine Kd.C_drew ?_))); (case side8 => exact HC0_3.out); (case side9 => repeat (first | exact (Kd.C_below HR0_4.out HB.out) | (with_reducible refine Kd.C_alloc ?_ _) | (with_reducible refine Kd.C_drewN ?_ _) | (with_reducible refine Kd.C_drew ?_))); (case side10 => exact HC0_4.out); rintro e w12 ⟨rfl, hb⟩; have n0_ := Aside0.mk (blk_below (g := gb601) (o := .cells #[.slice A0_0 l0_0.length c0_0, .slice A0_1 l0_1.length c0_1, .slice A0_2 l0_2.length c0_2, .slice A0_3 l0_3.length c0_3, .slice A0_4 l0_4.length c0_4] 28 (0, 0)) (kK BK601) hb); have n1_ := Aside0.mk (below_step (kB1 HB GE601) hb); clear BK601; clear HB; have BK601 := n0_; have HB := n1_; clear n0_ n1_; obtain ⟨⟨hcz13_0, hcz13_1, hcz13_2, hcz13_3, hcz13_4⟩, hfz13_0, hfz13_1, hfz13_2, hfz13_3, hfz13_4⟩ := bx5 BK601) | (go_at_call 22; (with_reducible refine (w08_currents.calls k _ _ l0_0 _ _ l0_1 _ _ l0_2 _ _ l0_3 _ _ l0_4 _ _ l1 t604 _ ?side1 ?side2 ?side3 ?side4 ?side5 ?side6 ?side7 ?side8 ?side9 ?side10 ?side11 ?side12 A6.out).mono ?_); (case side1 => repeat (first | exact (Kd.C_below HR0_0.out HB.out) | (with_reducible refine Kd.C_alloc ?_ _) | (with_reducible refine Kd.C_drewN ?_ _) | (with_reducible refine Kd.C_drew ?_))); (case side2 => exact HC0_0.out); (case side3 => repeat (first | exact (Kd.C_below HR0_1.out HB.out) | (with_reducible refine Kd.C_alloc ?_ _) | (with_reducible refine Kd.C_drewN ?_ _) | (with_reducible refine Kd.C_drew ?_))); (case side4 => exact HC0_1.out); (case side5 => repeat (first | exact (Kd.C_below HR0_2.out HB.out) | (with_reducible refine Kd.C_alloc ?_ _) | (with_reducible refine Kd.C_drewN ?_ _) | (with_reducible refine Kd.C_drew ?_))); (case side6 => exact HC0_2.out); (case side7 => repeat (first | exact (Kd.C_below HR0_3.out HB.out) | (with_reducible refine Kd.C_alloc ?_ _) | (with_reducible refine Kd.C_drewN ?_ _) | (with_reducible refine Kd.C_drew ?_))); (case side8 => exact HC0_3.out); (case side9 => repeat (first | exact (Kd.C_below HR0_4.out HB.out) | (with_reducible refine Kd.C_alloc ?_ _) | (with_reducible refine Kd.C_drewN ?_ _) | (with_reducible refine Kd.C_drew ?_))); (case side10 => exact HC0_4.out); (case side11 => repeat (first | exact (Kd.C_below HR1.out HB.out) | (with_reducible refine Kd.C_alloc ?_ _) | (with_reducible refine Kd.C_drewN ?_ _) | (with_reducible refine Kd.C_drew ?_))); (case side12 => exact HC1.out); rintro e w14 ⟨v605, rfl, ho0, hb⟩; have n0_ := Aside0.mk (Kd.R_lower ho0 (below_size (kB1 HB GE601))); have n1_ := Aside0.mk (blk_below (g := gb601) (o := .cells #[.slice A0_0 l0_0.length c0_0, .slice A0_1 l0_1.length c0_1, .slice A0_2 l0_2.length c0_2, .slice A0_3 l0_3.length c0_3, .slice A0_4 l0_4.length c0_4] 28 (0, 0)) (kK BK601) hb); have n2_ := Aside0.mk (below_step (kB1 HB GE601) hb); clear BK601; clear HB; have HO606 := n0_; have BK601 := n1_; have HB := n2_; clear n0_ n1_ n2_; obtain ⟨⟨hcz15_0, hcz15_1, hcz15_2, hcz15_3, hcz15_4⟩, hfz15_0, hfz15_1, hfz15_2, hfz15_3, hfz15_4⟩ := bx5 BK601; obtain ⟨Ao16, co16, eo16⟩ := Kd.R_slice HO606.out; subst eo16) | (go_at_call 23; (with_reducible refine (w08_loads.calls _ _ l0_0 _ _ l0_1 _ _ l0_2 _ _ l0_3 _ _ l0_4 _ _ t604 t607 t610 _ ?side1 ?side2 ?side3 ?side4 ?side5 ?side6 ?side7 ?side8 ?side9 ?side10 ?side11 ?side12 A7.out).mono ?_); (case side1 => repeat (first | exact (Kd.C_below HR0_0.out HB.out) | (with_reducible refine Kd.C_alloc ?_ _) | (with_reducible refine Kd.C_drewN ?_ _) | (with_reducible refine Kd.C_drew ?_))); (case side2 => exact HC0_0.out); (case side3 => repeat (first | exact (Kd.C_below HR0_1.out HB.out) | (with_reducible refine Kd.C_alloc ?_ _) | (with_reducible refine Kd.C_drewN ?_ _) | (with_reducible refine Kd.C_drew ?_))); (case side4 => exact HC0_1.out); (case side5 => repeat (first | exact (Kd.C_below HR0_2.out HB.out) | (with_reducible refine Kd.C_alloc ?_ _) | (with_reducible refine Kd.C_drewN ?_ _) | (with_reducible refine Kd.C_drew ?_))); (case side6 => exact HC0_2.out); (case side7 => repeat (first | exact (Kd.C_below HR0_3.out HB.out) | (with_reducible refine Kd.C_alloc ?_ _) | (with_reducible refine Kd.C_drewN ?_ _) | (with_reducible refine Kd.C_drew ?_))); (case side8 => exact HC0_3.out); (case side9 => repeat (first | exact (Kd.C_below HR0_4.out HB.out) | (with_reducible refine Kd.C_alloc ?_ _) | (with_reducible refine Kd.C_drewN ?_ _) | (with_reducible refine Kd.C_drew ?_))); (case side10 => exact HC0_4.out); (case side11 => exact kC (Kd.R_reads' HO606.out).2.2); (case side12 => exact (Kd.R_reads' HO606.out).2.1); rintro e w17 ⟨v608, rfl, ho0, hb⟩; have n0_ := Aside0.mk (Kd.R_below (kR HO606) hb); have n1_ := Aside0.mk (Kd.R_lower ho0 (below_size (kB1 HB GE601))); have n2_ := Aside0.mk (blk_below (g := gb601) (o := .cells #[.slice A0_0 l0_0.length c0_0, .slice A0_1 l0_1.length c0_1, .slice A0_2 l0_2.length c0_2, .slice A0_3 l0_3.length c0_3, .slice A0_4 l0_4.length c0_4] 28 (0, 0)) (kK BK601) hb); have n3_ := Aside0.mk (below_step (kB1 HB GE601) hb); clear HO606; clear BK601; clear HB; have HO606 := n0_; have HO609 := n1_; have BK601 := n2_; have HB := n3_; clear n0_ n1_ n2_ n3_)); go_upto_region 6 with (first | ((with_reducible refine gate_dst (N := 2) rfl ?_); (try (refine gate_guard (by rfl) ?_; dsimp only)); refine box_event ?hg (N := 2) ?hd (cs := #[.slice A0_0 l0_0.length c0_0, .slice A0_1 l0_1.length c0_1, .slice A0_2 l0_2.length c0_2, .slice A0_3 l0_3.length c0_3, .slice A0_4 l0_4.length c0_4]) (t := 28) ?hr ?_; (case hd => rfl); (case hg => rfl); (case hr => first | (go_simp; done) | (go_simp; rfl)); intro gb601 hg w9 hbox hb; have n0_ := Aside0.mk (below_step (kB HB) hb); have n1_ := Aside0.mk (hbox); have n2_ := Aside0.mk ((by rw [hg]; exact (below_size (kB HB)) : w.heap.size ≤ gb601)); have n3_ := Aside0.mk ((by rw [hg]; exact (below_size (kB HB)) : w.heap.size ≤ gb601)); clear HB; have HB := n0_; have BK601 := n1_; have GW601 := n2_; have GE601 := n3_; clear n0_ n1_ n2_ n3_; clear hb hbox hg) | (go_at_call 10; (with_reducible refine (w08_head.calls k  t602 _ A3.out).mono ?_); rintro e w10 ⟨rfl, hb⟩; have n0_ := Aside0.mk (blk_below (g := gb601) (o := .cells #[.slice A0_0 l0_0.length c0_0, .slice A0_1 l0_1.length c0_1, .slice A0_2 l0_2.length c0_2, .slice A0_3 l0_3.length c0_3, .slice A0_4 l0_4.length c0_4] 28 (0, 0)) (kK BK601) hb); have n1_ := Aside0.mk (below_step (kB1 HB GE601) hb); clear BK601; clear HB; have BK601 := n0_; have HB := n1_; clear n0_ n1_; obtain ⟨⟨hcz11_0, hcz11_1, hcz11_2, hcz11_3, hcz11_4⟩, hfz11_0, hfz11_1, hfz11_2, hfz11_3, hfz11_4⟩ := bx5 BK601) | (go_at_call 20; (with_reducible refine (w08_usable.calls k _ _ l0_0 _ _ l0_1 _ _ l0_2 _ _ l0_3 _ _ l0_4 true _ ?side1 ?side2 ?side3 ?side4 ?side5 ?side6 ?side7 ?side8 ?side9 ?side10 A4.out).mono ?_); (case side1 => repeat (first | exact (Kd.C_below HR0_0.out HB.out) | (with_reducible refine Kd.C_alloc ?_ _) | (with_reducible refine Kd.C_drewN ?_ _) | (with_reducible refine Kd.C_drew ?_))); (case side2 => exact HC0_0.out); (case side3 => repeat (first | exact (Kd.C_below HR0_1.out HB.out) | (with_reducible refine Kd.C_alloc ?_ _) | (with_reducible refine Kd.C_drewN ?_ _) | (with_reducible refine Kd.C_drew ?_))); (case side4 => exact HC0_1.out); (case side5 => repeat (first | exact (Kd.C_below HR0_2.out HB.out) | (with_reducible refine Kd.C_alloc ?_ _) | (with_reducible refine Kd.C_drewN ?_ _) | (with_reducible refine Kd.C_drew ?_))); (case side6 => exact HC0_2.out); (case side7 => repeat (first | exact (Kd.C_below HR0_3.out HB.out) | (with_reducible refine Kd.C_alloc ?_ _) | (with_reducible refine Kd.C_drewN ?_ _) | (with_reducible refine Kd.C_drew ?_))); (case side8 => exact HC0_3.out); (case side9 => repeat (first | exact (Kd.C_below HR0_4.out HB.out) | (with_reducible refine Kd.C_alloc ?_ _) | (with_reducible refine Kd.C_drewN ?_ _) | (with_reducible refine Kd.C_drew ?_))); (case side10 => exact HC0_4.out); rintro e w12 ⟨rfl, hb⟩; have n0_ := Aside0.mk (blk_below (g := gb601) (o := .cells #[.slice A0_0 l0_0.length c0_0, .slice A0_1 l0_1.length c0_1, .slice A0_2 l0_2.length c0_2, .slice A0_3 l0_3.length c0_3, .slice A0_4 l0_4.length c0_4] 28 (0, 0)) (kK BK601) hb); have n1_ := Aside0.mk (below_step (kB1 HB GE601) hb); clear BK601; clear HB; have BK601 := n0_; have HB := n1_; clear n0_ n1_; obtain ⟨⟨hcz13_0, hcz13_1, hcz13_2, hcz13_3, hcz13_4⟩, hfz13_0, hfz13_1, hfz13_2, hfz13_3, hfz13_4⟩ := bx5 BK601) | (go_at_call 22; (with_reducible refine (w08_currents.calls k _ _ l0_0 _ _ l0_1 _ _ l0_2 _ _ l0_3 _ _ l0_4 _ _ l1 t604 _ ?side1 ?side2 ?side3 ?side4 ?side5 ?side6 ?side7 ?side8 ?side9 ?side10 ?side11 ?side12 A6.out).mono ?_); (case side1 => repeat (first | exact (Kd.C_below HR0_0.out HB.out) | (with_reducible refine Kd.C_alloc ?_ _) | (with_reducible refine Kd.C_drewN ?_ _) | (with_reducible refine Kd.C_drew ?_))); (case side2 => exact HC0_0.out); (case side3 => repeat (first | exact (Kd.C_below HR0_1.out HB.out) | (with_reducible refine Kd.C_alloc ?_ _) | (with_reducible refine Kd.C_drewN ?_ _) | (with_reducible refine Kd.C_drew ?_))); (case side4 => exact HC0_1.out); (case side5 => repeat (first | exact (Kd.C_below HR0_2.out HB.out) | (with_reducible refine Kd.C_alloc ?_ _) | (with_reducible refine Kd.C_drewN ?_ _) | (with_reducible refine Kd.C_drew ?_))); (case side6 => exact HC0_2.out); (case side7 => repeat (first | exact (Kd.C_below HR0_3.out HB.out) | (with_reducible refine Kd.C_alloc ?_ _) | (with_reducible refine Kd.C_drewN ?_ _) | (with_reducible refine Kd.C_drew ?_))); (case side8 => exact HC0_3.out); (case side9 => repeat (first | exact (Kd.C_below HR0_4.out HB.out) | (with_reducible refine Kd.C_alloc ?_ _) | (with_reducible refine Kd.C_drewN ?_ _) | (with_reducible refine Kd.C_drew ?_))); (case side10 => exact HC0_4.out); (case side11 => repeat (first | exact (Kd.C_below HR1.out HB.out) | (with_reducible refine Kd.C_alloc ?_ _) | (with_reducible refine Kd.C_drewN ?_ _) | (with_reducible refine Kd.C_drew ?_))); (case side12 => exact HC1.out); rintro e w14 ⟨v605, rfl, ho0, hb⟩; have n0_ := Aside0.mk (Kd.R_lower ho0 (below_size (kB1 HB GE601))); have n1_ := Aside0.mk (blk_below (g := gb601) (o := .cells #[.slice A0_0 l0_0.length c0_0, .slice A0_1 l0_1.length c0_1, .slice A0_2 l0_2.length c0_2, .slice A0_3 l0_3.length c0_3, .slice A0_4 l0_4.length c0_4] 28 (0, 0)) (kK BK601) hb); have n2_ := Aside0.mk (below_step (kB1 HB GE601) hb); clear BK601; clear HB; have HO606 := n0_; have BK601 := n1_; have HB := n2_; clear n0_ n1_ n2_; obtain ⟨⟨hcz15_0, hcz15_1, hcz15_2, hcz15_3, hcz15_4⟩, hfz15_0, hfz15_1, hfz15_2, hfz15_3, hfz15_4⟩ := bx5 BK601; obtain ⟨Ao16, co16, eo16⟩ := Kd.R_slice HO606.out; subst eo16) | (go_at_call 23; (with_reducible refine (w08_loads.calls _ _ l0_0 _ _ l0_1 _ _ l0_2 _ _ l0_3 _ _ l0_4 _ _ t604 t607 t610 _ ?side1 ?side2 ?side3 ?side4 ?side5 ?side6 ?side7 ?side8 ?side9 ?side10 ?side11 ?side12 A7.out).mono ?_); (case side1 => repeat (first | exact (Kd.C_below HR0_0.out HB.out) | (with_reducible refine Kd.C_alloc ?_ _) | (with_reducible refine Kd.C_drewN ?_ _) | (with_reducible refine Kd.C_drew ?_))); (case side2 => exact HC0_0.out); (case side3 => repeat (first | exact (Kd.C_below HR0_1.out HB.out) | (with_reducible refine Kd.C_alloc ?_ _) | (with_reducible refine Kd.C_drewN ?_ _) | (with_reducible refine Kd.C_drew ?_))); (case side4 => exact HC0_1.out); (case side5 => repeat (first | exact (Kd.C_below HR0_2.out HB.out) | (with_reducible refine Kd.C_alloc ?_ _) | (with_reducible refine Kd.C_drewN ?_ _) | (with_reducible refine Kd.C_drew ?_))); (case side6 => exact HC0_2.out); (case side7 => repeat (first | exact (Kd.C_below HR0_3.out HB.out) | (with_reducible refine Kd.C_alloc ?_ _) | (with_reducible refine Kd.C_drewN ?_ _) | (with_reducible refine Kd.C_drew ?_))); (case side8 => exact HC0_3.out); (case side9 => repeat (first | exact (Kd.C_below HR0_4.out HB.out) | (with_reducible refine Kd.C_alloc ?_ _) | (with_reducible refine Kd.C_drewN ?_ _) | (with_reducible refine Kd.C_drew ?_))); (case side10 => exact HC0_4.out); (case side11 => exact kC (Kd.R_reads' HO606.out).2.2); (case side12 => exact (Kd.R_reads' HO606.out).2.1); rintro e w17 ⟨v608, rfl, ho0, hb⟩; have n0_ := Aside0.mk (Kd.R_below (kR HO606) hb); have n1_ := Aside0.mk (Kd.R_lower ho0 (below_size (kB1 HB GE601))); have n2_ := Aside0.mk (blk_below (g := gb601) (o := .cells #[.slice A0_0 l0_0.length c0_0, .slice A0_1 l0_1.length c0_1, .slice A0_2 l0_2.length c0_2, .slice A0_3 l0_3.length c0_3, .slice A0_4 l0_4.length c0_4] 28 (0, 0)) (kK BK601) hb); have n3_ := Aside0.mk (below_step (kB1 HB GE601) hb); clear HO606; clear BK601; clear HB; have HO606 := n0_; have HO609 := n1_; have BK601 := n2_; have HB := n3_; clear n0_ n1_ n2_ n3_)))
 (try simp only [Act.put, List.setIfInBounds_toArray, List.set_cons_zero, List.set_cons_succ])
 go_cut [35] (fun v35 wc => ∃ (kq : Nat) (x35_7 : Bool), v35 = .bool x35_7 ∧ Aside0 (w08_TreeFeeder.j0 kq t602 t604 t607 x35_7 l0_0 l0_1 l0_2 l0_3 l0_4 = some r) ∧ Aside0 (kq ≤ k) ∧ Aside0 (Kd.R (Kd.int .i64) 3 wc w.heap.size (fun _ => True) (.slice Ao16 t604.length co16) t604) ∧ Aside0 (Kd.R k55 55 wc w.heap.size (fun _ => True) v608 t607) ∧ Aside0 (wc.heap[gb601]? = some (.cells #[(.slice A0_0 l0_0.length c0_0), (.slice A0_1 l0_1.length c0_1), (.slice A0_2 l0_2.length c0_2), (.slice A0_3 l0_3.length c0_3), (.slice A0_4 l0_4.length c0_4)] 28 (0, 0))) ∧ Aside0 (Below w.heap.size w wc))
 case first =>
  have H := HC8.out
  clear HC8
  by_cases c18 : t610 = true
  rotate_left
  ·replace c18 := Bool.eq_false_iff.mpr c18
   subst c18
   have H1 : (w08_TreeFeeder.j0 k t602 t604 t607 true l0_0 l0_1 l0_2 l0_3 l0_4) = some r := by rw [if_neg (show ¬ (false = true) by decide)] at H; exact H
   clear H
   have H := H1
   clear H1
   have H' := Aside0.mk H
   clear H
   go_wp2
   repeat (go_quiet (fail); try go_wp2)
   go_meet
   case rel => exact ⟨_, (true), tQ, H', ⟨by first | omega | exact Nat.le_refl _⟩, ⟨kR HO606⟩, ⟨kR HO609⟩, ⟨kK BK601⟩, ⟨kB1 HB GE601⟩⟩
  subst c18
  have H1 : (w08_TreeFeeder.j0 k t602 t604 t607 ((t607.length : Int) == 0) l0_0 l0_1 l0_2 l0_3 l0_4) = some r := by rw [if_pos rfl] at H; exact H
  clear H
  have H := H1
  clear H1
  have H' := Aside0.mk H
  clear H
  obtain ⟨Ao19, co19, eo19⟩ := Kd.R_slice HO609.out
  subst eo19
  go_wp2
  repeat (go_quiet (fail); try go_wp2)
  go_meet
  case rel => exact ⟨_, (((t607.length : Int) == 0)), tQ, H', ⟨by first | omega | exact Nat.le_refl _⟩, ⟨kR HO606⟩, ⟨kR HO609⟩, ⟨kK BK601⟩, ⟨kB1 HB GE601⟩⟩
 case rest =>
  clear HC8
  obtain ⟨kq, x35_7, rfl, HA, HJ7, HO_6, HO_7, BK601, HB⟩ := hcut
  cases kq with
  | zero => exact absurd HA.out (by simp [w08_TreeFeeder.j0])
  | succ kj7 =>
   have H := HA.out
   clear HA
   simp only [w08_TreeFeeder.j0] at H
   by_cases c20 : x35_7 = true
   ·subst c20
    have H1 : (some false) = some r := by rw [if_pos rfl] at H; exact H
    clear H
    have H := H1
    clear H1
    obtain rfl := Option.some.inj H
    go_wp2
    repeat (go_quiet (fail); try go_wp2)
    go_ret
    exact ⟨by first | rfl | (simp [errW_none, errW_some] <;> rfl) | (simp [*, errW_none, errW_some] <;> rfl), kB1 HB GE601⟩
   replace c20 := Bool.eq_false_iff.mpr c20
   subst c20
   have H1 : (w08_TreeFeeder.l0 kj7 t602 t604 t607 0 l0_3 (l0_3.length : Int) 0) = some r := by rw [if_neg (show ¬ (false = true) by decide)] at H; exact H
   clear H
   have H := H1
   clear H1
   have H' := Aside0.mk H
   clear H
   obtain ⟨⟨hcz21_0, hcz21_1, hcz21_2, hcz21_3, hcz21_4⟩, hfz21_0, hfz21_1, hfz21_2, hfz21_3, hfz21_4⟩ := bx5 BK601
   go_wp2
   repeat (go_quiet (fail); try go_wp2)
   go_loopg [9, 39] kj7 (fun kq v9 v39 w' => ∃ (x9_2 : Int) (x39_2 : Int), v9 = .int .i64 x9_2 ∧ v39 = .int .i64 x39_2 ∧ Aside0 (w08_TreeFeeder.l0 kq t602 t604 t607 x9_2 l0_3 (l0_3.length : Int) x39_2 = some r) ∧ Aside0 (kq ≤ kj7) ∧ Aside0 (Kd.R (Kd.int .i64) 3 w' w.heap.size (fun _ => True) (.slice Ao16 t604.length co16) t604) ∧ Aside0 (Kd.R k55 55 w' w.heap.size (fun _ => True) v608 t607) ∧ Aside0 (w'.heap[gb601]? = some (.cells #[(.slice A0_0 l0_0.length c0_0), (.slice A0_1 l0_1.length c0_1), (.slice A0_2 l0_2.length c0_2), (.slice A0_3 l0_3.length c0_3), (.slice A0_4 l0_4.length c0_4)] 28 (0, 0))) ∧ Aside0 (Below w.heap.size w w'))
   case atStart => exact ⟨(0), (0), tQ, tQ, H', ⟨Nat.le_refl _⟩, ⟨kR HO_6⟩, ⟨kR HO_7⟩, ⟨kK BK601⟩, ⟨kB1 HB GE601⟩⟩
   case round =>
    clear H'
    obtain ⟨x9_2, x39_2, rfl, rfl, HA, HK2, HO_6, HO_7, BK601, HB⟩ := hrel
    cases gk with
    | zero => exact absurd HA.out (by simp [w08_TreeFeeder.l0])
    | succ k2 =>
     have H := HA.out
     clear HA
     simp only [w08_TreeFeeder.l0] at H
     by_cases c22 : x39_2 < (l0_3.length : Int)
     ·rw [if_pos c22] at H
      have c22b0 : decide (x39_2 < (l0_3.length : Int)) = true := decide_eq_true c22
      clear c22
      by_cases c23 : 0 ≤ x39_2
      rotate_left
      ·rw [if_neg c23] at H
       exact absurd H (by simp)
      rw [if_pos c23] at H
      have c23b0 : decide (0 ≤ x39_2) = true := decide_eq_true c23
      clear c23
      by_cases c24 : x39_2 < (l0_3.length : Int)
      rotate_left
      ·rw [if_neg c24] at H
       exact absurd H (by simp)
      rw [if_pos c24] at H
      have c24b0 : decide (x39_2 < (l0_3.length : Int)) = true := decide_eq_true c24
      clear c24
      by_cases c25 : x39_2 < (t604.length : Int)
      rotate_left
      ·rw [if_neg c25] at H
       exact absurd H (by simp)
      rw [if_pos c25] at H
      have c25b0 : decide (x39_2 < (t604.length : Int)) = true := decide_eq_true c25
      clear c25
      have H' := Aside0.mk H
      clear H
      have p611 : 0 ≤ (x39_2 : Int) := tD
      have q611 : x39_2 < (l0_3.length : Int) := tD
      obtain ⟨ad611, e611, hx611_0, hx611_1, hx611_2, hx611_3, hx611_4, hx611_5, hx611_6, hx611_7⟩ := at_T42 HR0_3.out x39_2 p611 q611
      cases e611
      replace hx611_0 := cB HB hx611_0
      replace hx611_1 := cB HB hx611_1
      replace hx611_2 := cB HB hx611_2
      replace hx611_3 := cB HB hx611_3
      replace hx611_4 := cB HB hx611_4
      replace hx611_5 := cB HB hx611_5
      replace hx611_6 := cB HB hx611_6
      replace hx611_7 := cB HB hx611_7
      replace p611 := eq_true p611
      replace q611 := eq_true q611
      go_wp2_with (first | ((with_reducible refine gate_dst (N := 11) rfl ?_); (try (refine gate_guard (by rfl) ?_; dsimp only)); refine box_event ?hg (N := 11) ?hd (cs := #[.string (⟨#[]⟩ : ByteArray), .int .i64 0, .int .i64 0, .int .i64 0, .int .i64 0, .int .i64 0, .int .i64 0, .int .i64 0]) (t := 42) ?hr ?_; (case hd => rfl); (case hg => rfl); (case hr => first | (go_simp; done) | (go_simp; rfl)); intro gb612 hg w26 hbox hb; have n0_ := Aside0.mk (Kd.R_below (kR HO_6) hb); have n1_ := Aside0.mk (Kd.R_below (kR HO_7) hb); have n2_ := Aside0.mk (blk_below (g := gb601) (o := .cells #[.slice A0_0 l0_0.length c0_0, .slice A0_1 l0_1.length c0_1, .slice A0_2 l0_2.length c0_2, .slice (some ad611) l0_3.length c0_3, .slice A0_4 l0_4.length c0_4] 28 (0, 0)) (kK BK601) hb); have n3_ := Aside0.mk (below_step (kB1 HB GE601) hb); have n4_ := Aside0.mk (hbox); have n5_ := Aside0.mk ((by rw [hg]; exact (below_size (kB1 HB GE601)) : w.heap.size ≤ gb612)); have n6_ := Aside0.mk ((by rw [hg]; exact (below_size (kB1 HB GE601)) : w.heap.size ≤ gb612)); have n7_ := Aside0.mk ((by rw [hg]; exact Nat.ne_of_lt (blk_lt (g := gb601) (o := .cells #[.slice A0_0 l0_0.length c0_0, .slice A0_1 l0_1.length c0_1, .slice A0_2 l0_2.length c0_2, .slice (some ad611) l0_3.length c0_3, .slice A0_4 l0_4.length c0_4] 28 (0, 0)) (kK BK601)) : gb601 ≠ gb612)); have n8_ := Aside0.mk ((by rw [hg]; exact Nat.ne_of_gt (blk_lt (g := gb601) (o := .cells #[.slice A0_0 l0_0.length c0_0, .slice A0_1 l0_1.length c0_1, .slice A0_2 l0_2.length c0_2, .slice (some ad611) l0_3.length c0_3, .slice A0_4 l0_4.length c0_4] 28 (0, 0)) (kK BK601)) : gb612 ≠ gb601)); clear HO_6; clear HO_7; clear BK601; clear HB; have HO_6 := n0_; have HO_7 := n1_; have BK601 := n2_; have HB := n3_; have BK612 := n4_; have GW612 := n5_; have GE612 := n6_; have NB601_612 := n7_; have NB612_601 := n8_; clear n0_ n1_ n2_ n3_ n4_ n5_ n6_ n7_ n8_; clear hb hbox hg; have hnb27 := NB612_601.out; have hnc27 := NB601_612.out; obtain ⟨⟨hcz28_0, hcz28_1, hcz28_2, hcz28_3, hcz28_4, hcz28_5, hcz28_6, hcz28_7⟩, hfz28_0, hfz28_1, hfz28_2, hfz28_3, hfz28_4, hfz28_5, hfz28_6, hfz28_7⟩ := bx8 BK612; have p613 : 0 ≤ (x39_2 : Int) := tD; have q613 : x39_2 < (t604.length : Int) := tD; obtain ⟨ad613, e613, hx613_0⟩ := Kd.at_int (Kd.R_reads' HO_6.out).2.2 x39_2 p613 q613; cases e613; have hn613_0 : ad613.block ≠ gb612 := Kd.own_blk (Kd.R_ne HO_6.out BK612.out (by decide)); have hn613_1 : ad613.block ≠ gb612 := Kd.own_blk (Kd.R_ne HO_6.out BK612.out (by decide)); have hn613_2 : ad613.block ≠ gb612 := Kd.own_blk (Kd.R_ne HO_6.out BK612.out (by decide)); have hn613_3 : ad613.block ≠ gb612 := Kd.own_blk (Kd.R_ne HO_6.out BK612.out (by decide)); have hn613_4 : ad613.block ≠ gb612 := Kd.own_blk (Kd.R_ne HO_6.out BK612.out (by decide)); have hn613_5 : ad613.block ≠ gb612 := Kd.own_blk (Kd.R_ne HO_6.out BK612.out (by decide)); have hn613_6 : ad613.block ≠ gb612 := Kd.own_blk (Kd.R_ne HO_6.out BK612.out (by decide)); have hn613_7 : ad613.block ≠ gb612 := Kd.own_blk (Kd.R_ne HO_6.out BK612.out (by decide)); replace hx613_0 := (cell_far (p := ⟨gb612, 0, none⟩) (by first | (rw [add_block]; exact hn613_0) | (show (Addr.add _ _).block ≠ _; rw [add_block]; exact hn613_0) | exact hn613_0) (.string ((rd_T42 l0_3 x39_2).f0))).trans hx613_0; replace hx613_0 := (cell_far (p := ⟨gb612, 1, none⟩) (by first | (rw [add_block]; exact hn613_1) | (show (Addr.add _ _).block ≠ _; rw [add_block]; exact hn613_1) | exact hn613_1) (.int .i64 ((rd_T42 l0_3 x39_2).f1))).trans hx613_0; replace hx613_0 := (cell_far (p := ⟨gb612, 2, none⟩) (by first | (rw [add_block]; exact hn613_2) | (show (Addr.add _ _).block ≠ _; rw [add_block]; exact hn613_2) | exact hn613_2) (.int .i64 ((rd_T42 l0_3 x39_2).f2))).trans hx613_0; replace hx613_0 := (cell_far (p := ⟨gb612, 3, none⟩) (by first | (rw [add_block]; exact hn613_3) | (show (Addr.add _ _).block ≠ _; rw [add_block]; exact hn613_3) | exact hn613_3) (.int .i64 ((rd_T42 l0_3 x39_2).f3))).trans hx613_0; replace hx613_0 := (cell_far (p := ⟨gb612, 4, none⟩) (by first | (rw [add_block]; exact hn613_4) | (show (Addr.add _ _).block ≠ _; rw [add_block]; exact hn613_4) | exact hn613_4) (.int .i64 ((rd_T42 l0_3 x39_2).f4))).trans hx613_0; replace hx613_0 := (cell_far (p := ⟨gb612, 5, none⟩) (by first | (rw [add_block]; exact hn613_5) | (show (Addr.add _ _).block ≠ _; rw [add_block]; exact hn613_5) | exact hn613_5) (.int .i64 ((rd_T42 l0_3 x39_2).f5))).trans hx613_0; replace hx613_0 := (cell_far (p := ⟨gb612, 6, none⟩) (by first | (rw [add_block]; exact hn613_6) | (show (Addr.add _ _).block ≠ _; rw [add_block]; exact hn613_6) | exact hn613_6) (.int .i64 ((rd_T42 l0_3 x39_2).f6))).trans hx613_0; replace hx613_0 := (cell_far (p := ⟨gb612, 7, none⟩) (by first | (rw [add_block]; exact hn613_7) | (show (Addr.add _ _).block ≠ _; rw [add_block]; exact hn613_7) | exact hn613_7) (.int .i64 ((rd_T42 l0_3 x39_2).f7))).trans hx613_0; (try (have hb_ : w26.cell? _ = some _ := ((cell_far (p := ⟨gb612, 0, none⟩) (by first | (rw [add_block]; exact hn613_0) | (show (Addr.add _ _).block ≠ _; rw [add_block]; exact hn613_0) | exact hn613_0) (.string ((rd_T42 l0_3 x39_2).f0))).symm.trans ((cell_far (p := ⟨gb612, 1, none⟩) (by first | (rw [add_block]; exact hn613_1) | (show (Addr.add _ _).block ≠ _; rw [add_block]; exact hn613_1) | exact hn613_1) (.int .i64 ((rd_T42 l0_3 x39_2).f1))).symm.trans ((cell_far (p := ⟨gb612, 2, none⟩) (by first | (rw [add_block]; exact hn613_2) | (show (Addr.add _ _).block ≠ _; rw [add_block]; exact hn613_2) | exact hn613_2) (.int .i64 ((rd_T42 l0_3 x39_2).f2))).symm.trans ((cell_far (p := ⟨gb612, 3, none⟩) (by first | (rw [add_block]; exact hn613_3) | (show (Addr.add _ _).block ≠ _; rw [add_block]; exact hn613_3) | exact hn613_3) (.int .i64 ((rd_T42 l0_3 x39_2).f3))).symm.trans ((cell_far (p := ⟨gb612, 4, none⟩) (by first | (rw [add_block]; exact hn613_4) | (show (Addr.add _ _).block ≠ _; rw [add_block]; exact hn613_4) | exact hn613_4) (.int .i64 ((rd_T42 l0_3 x39_2).f4))).symm.trans ((cell_far (p := ⟨gb612, 5, none⟩) (by first | (rw [add_block]; exact hn613_5) | (show (Addr.add _ _).block ≠ _; rw [add_block]; exact hn613_5) | exact hn613_5) (.int .i64 ((rd_T42 l0_3 x39_2).f5))).symm.trans ((cell_far (p := ⟨gb612, 6, none⟩) (by first | (rw [add_block]; exact hn613_6) | (show (Addr.add _ _).block ≠ _; rw [add_block]; exact hn613_6) | exact hn613_6) (.int .i64 ((rd_T42 l0_3 x39_2).f6))).symm.trans ((cell_far (p := ⟨gb612, 7, none⟩) (by first | (rw [add_block]; exact hn613_7) | (show (Addr.add _ _).block ≠ _; rw [add_block]; exact hn613_7) | exact hn613_7) (.int .i64 ((rd_T42 l0_3 x39_2).f7))).symm.trans hx613_0)))))))); have hy613_0 := fun (n_ : Nat) => ((cell_far (p := ⟨gb612, 7, none⟩) (by first | (rw [add_block]; exact hn613_7) | (show (Addr.add _ _).block ≠ _; rw [add_block]; exact hn613_7) | exact hn613_7) (.int .i64 ((rd_T42 l0_3 x39_2).f7))).trans ((cell_far (p := ⟨gb612, 6, none⟩) (by first | (rw [add_block]; exact hn613_6) | (show (Addr.add _ _).block ≠ _; rw [add_block]; exact hn613_6) | exact hn613_6) (.int .i64 ((rd_T42 l0_3 x39_2).f6))).trans ((cell_far (p := ⟨gb612, 5, none⟩) (by first | (rw [add_block]; exact hn613_5) | (show (Addr.add _ _).block ≠ _; rw [add_block]; exact hn613_5) | exact hn613_5) (.int .i64 ((rd_T42 l0_3 x39_2).f5))).trans ((cell_far (p := ⟨gb612, 4, none⟩) (by first | (rw [add_block]; exact hn613_4) | (show (Addr.add _ _).block ≠ _; rw [add_block]; exact hn613_4) | exact hn613_4) (.int .i64 ((rd_T42 l0_3 x39_2).f4))).trans ((cell_far (p := ⟨gb612, 3, none⟩) (by first | (rw [add_block]; exact hn613_3) | (show (Addr.add _ _).block ≠ _; rw [add_block]; exact hn613_3) | exact hn613_3) (.int .i64 ((rd_T42 l0_3 x39_2).f3))).trans ((cell_far (p := ⟨gb612, 2, none⟩) (by first | (rw [add_block]; exact hn613_2) | (show (Addr.add _ _).block ≠ _; rw [add_block]; exact hn613_2) | exact hn613_2) (.int .i64 ((rd_T42 l0_3 x39_2).f2))).trans ((cell_far (p := ⟨gb612, 1, none⟩) (by first | (rw [add_block]; exact hn613_1) | (show (Addr.add _ _).block ≠ _; rw [add_block]; exact hn613_1) | exact hn613_1) (.int .i64 ((rd_T42 l0_3 x39_2).f1))).trans ((cell_far (p := ⟨gb612, 0, none⟩) (by first | (rw [add_block]; exact hn613_0) | (show (Addr.add _ _).block ≠ _; rw [add_block]; exact hn613_0) | exact hn613_0) (.string ((rd_T42 l0_3 x39_2).f0))).trans (show (w26.drewN n_).cell? _ = some _ from hb_))))))))); clear hb_)); clear hn613_0; clear hn613_1; clear hn613_2; clear hn613_3; clear hn613_4; clear hn613_5; clear hn613_6; clear hn613_7; replace p613 := eq_true p613; replace q613 := eq_true q613))
      repeat (go_quiet (first | ((with_reducible refine gate_dst (N := 11) rfl ?_); (try (refine gate_guard (by rfl) ?_; dsimp only)); refine box_event ?hg (N := 11) ?hd (cs := #[.string (⟨#[]⟩ : ByteArray), .int .i64 0, .int .i64 0, .int .i64 0, .int .i64 0, .int .i64 0, .int .i64 0, .int .i64 0]) (t := 42) ?hr ?_; (case hd => rfl); (case hg => rfl); (case hr => first | (go_simp; done) | (go_simp; rfl)); intro gb612 hg w26 hbox hb; have n0_ := Aside0.mk (Kd.R_below (kR HO_6) hb); have n1_ := Aside0.mk (Kd.R_below (kR HO_7) hb); have n2_ := Aside0.mk (blk_below (g := gb601) (o := .cells #[.slice A0_0 l0_0.length c0_0, .slice A0_1 l0_1.length c0_1, .slice A0_2 l0_2.length c0_2, .slice (some ad611) l0_3.length c0_3, .slice A0_4 l0_4.length c0_4] 28 (0, 0)) (kK BK601) hb); have n3_ := Aside0.mk (below_step (kB1 HB GE601) hb); have n4_ := Aside0.mk (hbox); have n5_ := Aside0.mk ((by rw [hg]; exact (below_size (kB1 HB GE601)) : w.heap.size ≤ gb612)); have n6_ := Aside0.mk ((by rw [hg]; exact (below_size (kB1 HB GE601)) : w.heap.size ≤ gb612)); have n7_ := Aside0.mk ((by rw [hg]; exact Nat.ne_of_lt (blk_lt (g := gb601) (o := .cells #[.slice A0_0 l0_0.length c0_0, .slice A0_1 l0_1.length c0_1, .slice A0_2 l0_2.length c0_2, .slice (some ad611) l0_3.length c0_3, .slice A0_4 l0_4.length c0_4] 28 (0, 0)) (kK BK601)) : gb601 ≠ gb612)); have n8_ := Aside0.mk ((by rw [hg]; exact Nat.ne_of_gt (blk_lt (g := gb601) (o := .cells #[.slice A0_0 l0_0.length c0_0, .slice A0_1 l0_1.length c0_1, .slice A0_2 l0_2.length c0_2, .slice (some ad611) l0_3.length c0_3, .slice A0_4 l0_4.length c0_4] 28 (0, 0)) (kK BK601)) : gb612 ≠ gb601)); clear HO_6; clear HO_7; clear BK601; clear HB; have HO_6 := n0_; have HO_7 := n1_; have BK601 := n2_; have HB := n3_; have BK612 := n4_; have GW612 := n5_; have GE612 := n6_; have NB601_612 := n7_; have NB612_601 := n8_; clear n0_ n1_ n2_ n3_ n4_ n5_ n6_ n7_ n8_; clear hb hbox hg; have hnb27 := NB612_601.out; have hnc27 := NB601_612.out; obtain ⟨⟨hcz28_0, hcz28_1, hcz28_2, hcz28_3, hcz28_4, hcz28_5, hcz28_6, hcz28_7⟩, hfz28_0, hfz28_1, hfz28_2, hfz28_3, hfz28_4, hfz28_5, hfz28_6, hfz28_7⟩ := bx8 BK612; have p613 : 0 ≤ (x39_2 : Int) := tD; have q613 : x39_2 < (t604.length : Int) := tD; obtain ⟨ad613, e613, hx613_0⟩ := Kd.at_int (Kd.R_reads' HO_6.out).2.2 x39_2 p613 q613; cases e613; have hn613_0 : ad613.block ≠ gb612 := Kd.own_blk (Kd.R_ne HO_6.out BK612.out (by decide)); have hn613_1 : ad613.block ≠ gb612 := Kd.own_blk (Kd.R_ne HO_6.out BK612.out (by decide)); have hn613_2 : ad613.block ≠ gb612 := Kd.own_blk (Kd.R_ne HO_6.out BK612.out (by decide)); have hn613_3 : ad613.block ≠ gb612 := Kd.own_blk (Kd.R_ne HO_6.out BK612.out (by decide)); have hn613_4 : ad613.block ≠ gb612 := Kd.own_blk (Kd.R_ne HO_6.out BK612.out (by decide)); have hn613_5 : ad613.block ≠ gb612 := Kd.own_blk (Kd.R_ne HO_6.out BK612.out (by decide)); have hn613_6 : ad613.block ≠ gb612 := Kd.own_blk (Kd.R_ne HO_6.out BK612.out (by decide)); have hn613_7 : ad613.block ≠ gb612 := Kd.own_blk (Kd.R_ne HO_6.out BK612.out (by decide)); replace hx613_0 := (cell_far (p := ⟨gb612, 0, none⟩) (by first | (rw [add_block]; exact hn613_0) | (show (Addr.add _ _).block ≠ _; rw [add_block]; exact hn613_0) | exact hn613_0) (.string ((rd_T42 l0_3 x39_2).f0))).trans hx613_0; replace hx613_0 := (cell_far (p := ⟨gb612, 1, none⟩) (by first | (rw [add_block]; exact hn613_1) | (show (Addr.add _ _).block ≠ _; rw [add_block]; exact hn613_1) | exact hn613_1) (.int .i64 ((rd_T42 l0_3 x39_2).f1))).trans hx613_0; replace hx613_0 := (cell_far (p := ⟨gb612, 2, none⟩) (by first | (rw [add_block]; exact hn613_2) | (show (Addr.add _ _).block ≠ _; rw [add_block]; exact hn613_2) | exact hn613_2) (.int .i64 ((rd_T42 l0_3 x39_2).f2))).trans hx613_0; replace hx613_0 := (cell_far (p := ⟨gb612, 3, none⟩) (by first | (rw [add_block]; exact hn613_3) | (show (Addr.add _ _).block ≠ _; rw [add_block]; exact hn613_3) | exact hn613_3) (.int .i64 ((rd_T42 l0_3 x39_2).f3))).trans hx613_0; replace hx613_0 := (cell_far (p := ⟨gb612, 4, none⟩) (by first | (rw [add_block]; exact hn613_4) | (show (Addr.add _ _).block ≠ _; rw [add_block]; exact hn613_4) | exact hn613_4) (.int .i64 ((rd_T42 l0_3 x39_2).f4))).trans hx613_0; replace hx613_0 := (cell_far (p := ⟨gb612, 5, none⟩) (by first | (rw [add_block]; exact hn613_5) | (show (Addr.add _ _).block ≠ _; rw [add_block]; exact hn613_5) | exact hn613_5) (.int .i64 ((rd_T42 l0_3 x39_2).f5))).trans hx613_0; replace hx613_0 := (cell_far (p := ⟨gb612, 6, none⟩) (by first | (rw [add_block]; exact hn613_6) | (show (Addr.add _ _).block ≠ _; rw [add_block]; exact hn613_6) | exact hn613_6) (.int .i64 ((rd_T42 l0_3 x39_2).f6))).trans hx613_0; replace hx613_0 := (cell_far (p := ⟨gb612, 7, none⟩) (by first | (rw [add_block]; exact hn613_7) | (show (Addr.add _ _).block ≠ _; rw [add_block]; exact hn613_7) | exact hn613_7) (.int .i64 ((rd_T42 l0_3 x39_2).f7))).trans hx613_0; (try (have hb_ : w26.cell? _ = some _ := ((cell_far (p := ⟨gb612, 0, none⟩) (by first | (rw [add_block]; exact hn613_0) | (show (Addr.add _ _).block ≠ _; rw [add_block]; exact hn613_0) | exact hn613_0) (.string ((rd_T42 l0_3 x39_2).f0))).symm.trans ((cell_far (p := ⟨gb612, 1, none⟩) (by first | (rw [add_block]; exact hn613_1) | (show (Addr.add _ _).block ≠ _; rw [add_block]; exact hn613_1) | exact hn613_1) (.int .i64 ((rd_T42 l0_3 x39_2).f1))).symm.trans ((cell_far (p := ⟨gb612, 2, none⟩) (by first | (rw [add_block]; exact hn613_2) | (show (Addr.add _ _).block ≠ _; rw [add_block]; exact hn613_2) | exact hn613_2) (.int .i64 ((rd_T42 l0_3 x39_2).f2))).symm.trans ((cell_far (p := ⟨gb612, 3, none⟩) (by first | (rw [add_block]; exact hn613_3) | (show (Addr.add _ _).block ≠ _; rw [add_block]; exact hn613_3) | exact hn613_3) (.int .i64 ((rd_T42 l0_3 x39_2).f3))).symm.trans ((cell_far (p := ⟨gb612, 4, none⟩) (by first | (rw [add_block]; exact hn613_4) | (show (Addr.add _ _).block ≠ _; rw [add_block]; exact hn613_4) | exact hn613_4) (.int .i64 ((rd_T42 l0_3 x39_2).f4))).symm.trans ((cell_far (p := ⟨gb612, 5, none⟩) (by first | (rw [add_block]; exact hn613_5) | (show (Addr.add _ _).block ≠ _; rw [add_block]; exact hn613_5) | exact hn613_5) (.int .i64 ((rd_T42 l0_3 x39_2).f5))).symm.trans ((cell_far (p := ⟨gb612, 6, none⟩) (by first | (rw [add_block]; exact hn613_6) | (show (Addr.add _ _).block ≠ _; rw [add_block]; exact hn613_6) | exact hn613_6) (.int .i64 ((rd_T42 l0_3 x39_2).f6))).symm.trans ((cell_far (p := ⟨gb612, 7, none⟩) (by first | (rw [add_block]; exact hn613_7) | (show (Addr.add _ _).block ≠ _; rw [add_block]; exact hn613_7) | exact hn613_7) (.int .i64 ((rd_T42 l0_3 x39_2).f7))).symm.trans hx613_0)))))))); have hy613_0 := fun (n_ : Nat) => ((cell_far (p := ⟨gb612, 7, none⟩) (by first | (rw [add_block]; exact hn613_7) | (show (Addr.add _ _).block ≠ _; rw [add_block]; exact hn613_7) | exact hn613_7) (.int .i64 ((rd_T42 l0_3 x39_2).f7))).trans ((cell_far (p := ⟨gb612, 6, none⟩) (by first | (rw [add_block]; exact hn613_6) | (show (Addr.add _ _).block ≠ _; rw [add_block]; exact hn613_6) | exact hn613_6) (.int .i64 ((rd_T42 l0_3 x39_2).f6))).trans ((cell_far (p := ⟨gb612, 5, none⟩) (by first | (rw [add_block]; exact hn613_5) | (show (Addr.add _ _).block ≠ _; rw [add_block]; exact hn613_5) | exact hn613_5) (.int .i64 ((rd_T42 l0_3 x39_2).f5))).trans ((cell_far (p := ⟨gb612, 4, none⟩) (by first | (rw [add_block]; exact hn613_4) | (show (Addr.add _ _).block ≠ _; rw [add_block]; exact hn613_4) | exact hn613_4) (.int .i64 ((rd_T42 l0_3 x39_2).f4))).trans ((cell_far (p := ⟨gb612, 3, none⟩) (by first | (rw [add_block]; exact hn613_3) | (show (Addr.add _ _).block ≠ _; rw [add_block]; exact hn613_3) | exact hn613_3) (.int .i64 ((rd_T42 l0_3 x39_2).f3))).trans ((cell_far (p := ⟨gb612, 2, none⟩) (by first | (rw [add_block]; exact hn613_2) | (show (Addr.add _ _).block ≠ _; rw [add_block]; exact hn613_2) | exact hn613_2) (.int .i64 ((rd_T42 l0_3 x39_2).f2))).trans ((cell_far (p := ⟨gb612, 1, none⟩) (by first | (rw [add_block]; exact hn613_1) | (show (Addr.add _ _).block ≠ _; rw [add_block]; exact hn613_1) | exact hn613_1) (.int .i64 ((rd_T42 l0_3 x39_2).f1))).trans ((cell_far (p := ⟨gb612, 0, none⟩) (by first | (rw [add_block]; exact hn613_0) | (show (Addr.add _ _).block ≠ _; rw [add_block]; exact hn613_0) | exact hn613_0) (.string ((rd_T42 l0_3 x39_2).f0))).trans (show (w26.drewN n_).cell? _ = some _ from hb_))))))))); clear hb_)); clear hn613_0; clear hn613_1; clear hn613_2; clear hn613_3; clear hn613_4; clear hn613_5; clear hn613_6; clear hn613_7; replace p613 := eq_true p613; replace q613 := eq_true q613)); try go_wp2_with (first | ((with_reducible refine gate_dst (N := 11) rfl ?_); (try (refine gate_guard (by rfl) ?_; dsimp only)); refine box_event ?hg (N := 11) ?hd (cs := #[.string (⟨#[]⟩ : ByteArray), .int .i64 0, .int .i64 0, .int .i64 0, .int .i64 0, .int .i64 0, .int .i64 0, .int .i64 0]) (t := 42) ?hr ?_; (case hd => rfl); (case hg => rfl); (case hr => first | (go_simp; done) | (go_simp; rfl)); intro gb612 hg w26 hbox hb; have n0_ := Aside0.mk (Kd.R_below (kR HO_6) hb); have n1_ := Aside0.mk (Kd.R_below (kR HO_7) hb); have n2_ := Aside0.mk (blk_below (g := gb601) (o := .cells #[.slice A0_0 l0_0.length c0_0, .slice A0_1 l0_1.length c0_1, .slice A0_2 l0_2.length c0_2, .slice (some ad611) l0_3.length c0_3, .slice A0_4 l0_4.length c0_4] 28 (0, 0)) (kK BK601) hb); have n3_ := Aside0.mk (below_step (kB1 HB GE601) hb); have n4_ := Aside0.mk (hbox); have n5_ := Aside0.mk ((by rw [hg]; exact (below_size (kB1 HB GE601)) : w.heap.size ≤ gb612)); have n6_ := Aside0.mk ((by rw [hg]; exact (below_size (kB1 HB GE601)) : w.heap.size ≤ gb612)); have n7_ := Aside0.mk ((by rw [hg]; exact Nat.ne_of_lt (blk_lt (g := gb601) (o := .cells #[.slice A0_0 l0_0.length c0_0, .slice A0_1 l0_1.length c0_1, .slice A0_2 l0_2.length c0_2, .slice (some ad611) l0_3.length c0_3, .slice A0_4 l0_4.length c0_4] 28 (0, 0)) (kK BK601)) : gb601 ≠ gb612)); have n8_ := Aside0.mk ((by rw [hg]; exact Nat.ne_of_gt (blk_lt (g := gb601) (o := .cells #[.slice A0_0 l0_0.length c0_0, .slice A0_1 l0_1.length c0_1, .slice A0_2 l0_2.length c0_2, .slice (some ad611) l0_3.length c0_3, .slice A0_4 l0_4.length c0_4] 28 (0, 0)) (kK BK601)) : gb612 ≠ gb601)); clear HO_6; clear HO_7; clear BK601; clear HB; have HO_6 := n0_; have HO_7 := n1_; have BK601 := n2_; have HB := n3_; have BK612 := n4_; have GW612 := n5_; have GE612 := n6_; have NB601_612 := n7_; have NB612_601 := n8_; clear n0_ n1_ n2_ n3_ n4_ n5_ n6_ n7_ n8_; clear hb hbox hg; have hnb27 := NB612_601.out; have hnc27 := NB601_612.out; obtain ⟨⟨hcz28_0, hcz28_1, hcz28_2, hcz28_3, hcz28_4, hcz28_5, hcz28_6, hcz28_7⟩, hfz28_0, hfz28_1, hfz28_2, hfz28_3, hfz28_4, hfz28_5, hfz28_6, hfz28_7⟩ := bx8 BK612; have p613 : 0 ≤ (x39_2 : Int) := tD; have q613 : x39_2 < (t604.length : Int) := tD; obtain ⟨ad613, e613, hx613_0⟩ := Kd.at_int (Kd.R_reads' HO_6.out).2.2 x39_2 p613 q613; cases e613; have hn613_0 : ad613.block ≠ gb612 := Kd.own_blk (Kd.R_ne HO_6.out BK612.out (by decide)); have hn613_1 : ad613.block ≠ gb612 := Kd.own_blk (Kd.R_ne HO_6.out BK612.out (by decide)); have hn613_2 : ad613.block ≠ gb612 := Kd.own_blk (Kd.R_ne HO_6.out BK612.out (by decide)); have hn613_3 : ad613.block ≠ gb612 := Kd.own_blk (Kd.R_ne HO_6.out BK612.out (by decide)); have hn613_4 : ad613.block ≠ gb612 := Kd.own_blk (Kd.R_ne HO_6.out BK612.out (by decide)); have hn613_5 : ad613.block ≠ gb612 := Kd.own_blk (Kd.R_ne HO_6.out BK612.out (by decide)); have hn613_6 : ad613.block ≠ gb612 := Kd.own_blk (Kd.R_ne HO_6.out BK612.out (by decide)); have hn613_7 : ad613.block ≠ gb612 := Kd.own_blk (Kd.R_ne HO_6.out BK612.out (by decide)); replace hx613_0 := (cell_far (p := ⟨gb612, 0, none⟩) (by first | (rw [add_block]; exact hn613_0) | (show (Addr.add _ _).block ≠ _; rw [add_block]; exact hn613_0) | exact hn613_0) (.string ((rd_T42 l0_3 x39_2).f0))).trans hx613_0; replace hx613_0 := (cell_far (p := ⟨gb612, 1, none⟩) (by first | (rw [add_block]; exact hn613_1) | (show (Addr.add _ _).block ≠ _; rw [add_block]; exact hn613_1) | exact hn613_1) (.int .i64 ((rd_T42 l0_3 x39_2).f1))).trans hx613_0; replace hx613_0 := (cell_far (p := ⟨gb612, 2, none⟩) (by first | (rw [add_block]; exact hn613_2) | (show (Addr.add _ _).block ≠ _; rw [add_block]; exact hn613_2) | exact hn613_2) (.int .i64 ((rd_T42 l0_3 x39_2).f2))).trans hx613_0; replace hx613_0 := (cell_far (p := ⟨gb612, 3, none⟩) (by first | (rw [add_block]; exact hn613_3) | (show (Addr.add _ _).block ≠ _; rw [add_block]; exact hn613_3) | exact hn613_3) (.int .i64 ((rd_T42 l0_3 x39_2).f3))).trans hx613_0; replace hx613_0 := (cell_far (p := ⟨gb612, 4, none⟩) (by first | (rw [add_block]; exact hn613_4) | (show (Addr.add _ _).block ≠ _; rw [add_block]; exact hn613_4) | exact hn613_4) (.int .i64 ((rd_T42 l0_3 x39_2).f4))).trans hx613_0; replace hx613_0 := (cell_far (p := ⟨gb612, 5, none⟩) (by first | (rw [add_block]; exact hn613_5) | (show (Addr.add _ _).block ≠ _; rw [add_block]; exact hn613_5) | exact hn613_5) (.int .i64 ((rd_T42 l0_3 x39_2).f5))).trans hx613_0; replace hx613_0 := (cell_far (p := ⟨gb612, 6, none⟩) (by first | (rw [add_block]; exact hn613_6) | (show (Addr.add _ _).block ≠ _; rw [add_block]; exact hn613_6) | exact hn613_6) (.int .i64 ((rd_T42 l0_3 x39_2).f6))).trans hx613_0; replace hx613_0 := (cell_far (p := ⟨gb612, 7, none⟩) (by first | (rw [add_block]; exact hn613_7) | (show (Addr.add _ _).block ≠ _; rw [add_block]; exact hn613_7) | exact hn613_7) (.int .i64 ((rd_T42 l0_3 x39_2).f7))).trans hx613_0; (try (have hb_ : w26.cell? _ = some _ := ((cell_far (p := ⟨gb612, 0, none⟩) (by first | (rw [add_block]; exact hn613_0) | (show (Addr.add _ _).block ≠ _; rw [add_block]; exact hn613_0) | exact hn613_0) (.string ((rd_T42 l0_3 x39_2).f0))).symm.trans ((cell_far (p := ⟨gb612, 1, none⟩) (by first | (rw [add_block]; exact hn613_1) | (show (Addr.add _ _).block ≠ _; rw [add_block]; exact hn613_1) | exact hn613_1) (.int .i64 ((rd_T42 l0_3 x39_2).f1))).symm.trans ((cell_far (p := ⟨gb612, 2, none⟩) (by first | (rw [add_block]; exact hn613_2) | (show (Addr.add _ _).block ≠ _; rw [add_block]; exact hn613_2) | exact hn613_2) (.int .i64 ((rd_T42 l0_3 x39_2).f2))).symm.trans ((cell_far (p := ⟨gb612, 3, none⟩) (by first | (rw [add_block]; exact hn613_3) | (show (Addr.add _ _).block ≠ _; rw [add_block]; exact hn613_3) | exact hn613_3) (.int .i64 ((rd_T42 l0_3 x39_2).f3))).symm.trans ((cell_far (p := ⟨gb612, 4, none⟩) (by first | (rw [add_block]; exact hn613_4) | (show (Addr.add _ _).block ≠ _; rw [add_block]; exact hn613_4) | exact hn613_4) (.int .i64 ((rd_T42 l0_3 x39_2).f4))).symm.trans ((cell_far (p := ⟨gb612, 5, none⟩) (by first | (rw [add_block]; exact hn613_5) | (show (Addr.add _ _).block ≠ _; rw [add_block]; exact hn613_5) | exact hn613_5) (.int .i64 ((rd_T42 l0_3 x39_2).f5))).symm.trans ((cell_far (p := ⟨gb612, 6, none⟩) (by first | (rw [add_block]; exact hn613_6) | (show (Addr.add _ _).block ≠ _; rw [add_block]; exact hn613_6) | exact hn613_6) (.int .i64 ((rd_T42 l0_3 x39_2).f6))).symm.trans ((cell_far (p := ⟨gb612, 7, none⟩) (by first | (rw [add_block]; exact hn613_7) | (show (Addr.add _ _).block ≠ _; rw [add_block]; exact hn613_7) | exact hn613_7) (.int .i64 ((rd_T42 l0_3 x39_2).f7))).symm.trans hx613_0)))))))); have hy613_0 := fun (n_ : Nat) => ((cell_far (p := ⟨gb612, 7, none⟩) (by first | (rw [add_block]; exact hn613_7) | (show (Addr.add _ _).block ≠ _; rw [add_block]; exact hn613_7) | exact hn613_7) (.int .i64 ((rd_T42 l0_3 x39_2).f7))).trans ((cell_far (p := ⟨gb612, 6, none⟩) (by first | (rw [add_block]; exact hn613_6) | (show (Addr.add _ _).block ≠ _; rw [add_block]; exact hn613_6) | exact hn613_6) (.int .i64 ((rd_T42 l0_3 x39_2).f6))).trans ((cell_far (p := ⟨gb612, 5, none⟩) (by first | (rw [add_block]; exact hn613_5) | (show (Addr.add _ _).block ≠ _; rw [add_block]; exact hn613_5) | exact hn613_5) (.int .i64 ((rd_T42 l0_3 x39_2).f5))).trans ((cell_far (p := ⟨gb612, 4, none⟩) (by first | (rw [add_block]; exact hn613_4) | (show (Addr.add _ _).block ≠ _; rw [add_block]; exact hn613_4) | exact hn613_4) (.int .i64 ((rd_T42 l0_3 x39_2).f4))).trans ((cell_far (p := ⟨gb612, 3, none⟩) (by first | (rw [add_block]; exact hn613_3) | (show (Addr.add _ _).block ≠ _; rw [add_block]; exact hn613_3) | exact hn613_3) (.int .i64 ((rd_T42 l0_3 x39_2).f3))).trans ((cell_far (p := ⟨gb612, 2, none⟩) (by first | (rw [add_block]; exact hn613_2) | (show (Addr.add _ _).block ≠ _; rw [add_block]; exact hn613_2) | exact hn613_2) (.int .i64 ((rd_T42 l0_3 x39_2).f2))).trans ((cell_far (p := ⟨gb612, 1, none⟩) (by first | (rw [add_block]; exact hn613_1) | (show (Addr.add _ _).block ≠ _; rw [add_block]; exact hn613_1) | exact hn613_1) (.int .i64 ((rd_T42 l0_3 x39_2).f1))).trans ((cell_far (p := ⟨gb612, 0, none⟩) (by first | (rw [add_block]; exact hn613_0) | (show (Addr.add _ _).block ≠ _; rw [add_block]; exact hn613_0) | exact hn613_0) (.string ((rd_T42 l0_3 x39_2).f0))).trans (show (w26.drewN n_).cell? _ = some _ from hb_))))))))); clear hb_)); clear hn613_0; clear hn613_1; clear hn613_2; clear hn613_3; clear hn613_4; clear hn613_5; clear hn613_6; clear hn613_7; replace p613 := eq_true p613; replace q613 := eq_true q613)))
      go_roundg k2
      case measure => have := HJ7.out; have := HK2.out; omega
      case rel => exact ⟨(wrap64 (x9_2 + (wrap64 ((rd t604 x39_2) * (wrap64 ((wrap64 ((Go.bits .and .i64 ((rd_T42 l0_3 x39_2).f2) 1) + (Go.bits .and .i64 (((rd_T42 l0_3 x39_2).f2) / 2) 1))) + (Go.bits .and .i64 (((rd_T42 l0_3 x39_2).f2) / 4) 1))))))), (wrap64 (x39_2 + 1)), tQ, tQ, H', ⟨by have := HJ7.out; have := HK2.out; omega⟩, ⟨by (with_reducible repeat (first | apply Kd.R_alloc | apply Kd.R_drewN | apply Kd.R_drew)); exact Kd.R_mono (Kd.R_far (p := ⟨gb612, 7, none⟩) (Kd.R_far (p := ⟨gb612, 6, none⟩) (Kd.R_far (p := ⟨gb612, 5, none⟩) (Kd.R_far (p := ⟨gb612, 4, none⟩) (Kd.R_far (p := ⟨gb612, 3, none⟩) (Kd.R_far (p := ⟨gb612, 2, none⟩) (Kd.R_far (p := ⟨gb612, 1, none⟩) (Kd.R_far (p := ⟨gb612, 0, none⟩) (Kd.R_types HO_6.out BK612.out (by decide)) (fun _ hk => hk.2) (.string ((rd_T42 l0_3 x39_2).f0))) (fun _ hk => hk.2) (.int .i64 ((rd_T42 l0_3 x39_2).f1))) (fun _ hk => hk.2) (.int .i64 ((rd_T42 l0_3 x39_2).f2))) (fun _ hk => hk.2) (.int .i64 ((rd_T42 l0_3 x39_2).f3))) (fun _ hk => hk.2) (.int .i64 ((rd_T42 l0_3 x39_2).f4))) (fun _ hk => hk.2) (.int .i64 ((rd_T42 l0_3 x39_2).f5))) (fun _ hk => hk.2) (.int .i64 ((rd_T42 l0_3 x39_2).f6))) (fun _ hk => hk.2) (.int .i64 ((rd_T42 l0_3 x39_2).f7))) (fun _ hk => trivial)⟩, ⟨by (with_reducible repeat (first | apply Kd.R_alloc | apply Kd.R_drewN | apply Kd.R_drew)); exact Kd.R_mono (Kd.R_far (p := ⟨gb612, 7, none⟩) (Kd.R_far (p := ⟨gb612, 6, none⟩) (Kd.R_far (p := ⟨gb612, 5, none⟩) (Kd.R_far (p := ⟨gb612, 4, none⟩) (Kd.R_far (p := ⟨gb612, 3, none⟩) (Kd.R_far (p := ⟨gb612, 2, none⟩) (Kd.R_far (p := ⟨gb612, 1, none⟩) (Kd.R_far (p := ⟨gb612, 0, none⟩) (Kd.R_types HO_7.out BK612.out (by decide)) (fun _ hk => hk.2) (.string ((rd_T42 l0_3 x39_2).f0))) (fun _ hk => hk.2) (.int .i64 ((rd_T42 l0_3 x39_2).f1))) (fun _ hk => hk.2) (.int .i64 ((rd_T42 l0_3 x39_2).f2))) (fun _ hk => hk.2) (.int .i64 ((rd_T42 l0_3 x39_2).f3))) (fun _ hk => hk.2) (.int .i64 ((rd_T42 l0_3 x39_2).f4))) (fun _ hk => hk.2) (.int .i64 ((rd_T42 l0_3 x39_2).f5))) (fun _ hk => hk.2) (.int .i64 ((rd_T42 l0_3 x39_2).f6))) (fun _ hk => hk.2) (.int .i64 ((rd_T42 l0_3 x39_2).f7))) (fun _ hk => trivial)⟩, ⟨by (with_reducible repeat (first | refine blk_drewN ?_ _ | refine blk_drew ?_ | refine blk_alloc ?_ _)); refine blk_far ?_ NB601_612.out _; (with_reducible repeat (first | refine blk_drewN ?_ _ | refine blk_drew ?_ | refine blk_alloc ?_ _)); refine blk_far ?_ NB601_612.out _; (with_reducible repeat (first | refine blk_drewN ?_ _ | refine blk_drew ?_ | refine blk_alloc ?_ _)); refine blk_far ?_ NB601_612.out _; (with_reducible repeat (first | refine blk_drewN ?_ _ | refine blk_drew ?_ | refine blk_alloc ?_ _)); refine blk_far ?_ NB601_612.out _; (with_reducible repeat (first | refine blk_drewN ?_ _ | refine blk_drew ?_ | refine blk_alloc ?_ _)); refine blk_far ?_ NB601_612.out _; (with_reducible repeat (first | refine blk_drewN ?_ _ | refine blk_drew ?_ | refine blk_alloc ?_ _)); refine blk_far ?_ NB601_612.out _; (with_reducible repeat (first | refine blk_drewN ?_ _ | refine blk_drew ?_ | refine blk_alloc ?_ _)); refine blk_far ?_ NB601_612.out _; (with_reducible repeat (first | refine blk_drewN ?_ _ | refine blk_drew ?_ | refine blk_alloc ?_ _)); refine blk_far ?_ NB601_612.out _; (with_reducible repeat (first | refine blk_drewN ?_ _ | refine blk_drew ?_ | refine blk_alloc ?_ _)); exact BK601.out⟩, ⟨kB2 HB GE601 GE612⟩⟩
     rw [if_neg c22] at H
     have c22b0 : decide (x39_2 < (l0_3.length : Int)) = false := decide_eq_false c22
     clear c22
     have H' := Aside0.mk H
     clear H
     obtain ⟨Ao29, co29, eo29⟩ := Kd.R_slice HO_7.out
     subst eo29
     go_wp2
     repeat (go_quiet (fail); try go_wp2)
     go_loopg [67] k2 (fun kq v67 w' => ∃ (x67_3 : Int), v67 = .int .i64 x67_3 ∧ Aside0 (w08_TreeFeeder.l1 kq t602 t607 x9_2 t607 (t607.length : Int) x67_3 = some r) ∧ Aside0 (kq ≤ k2) ∧ Aside0 (Kd.R k55 55 w' w.heap.size (fun _ => True) (.slice Ao29 t607.length co29) t607) ∧ Aside0 (Kd.R k55 55 w' w.heap.size (fun _ => True) (.slice Ao29 t607.length co29) t607) ∧ Aside0 (w'.heap[gb601]? = some (.cells #[(.slice A0_0 l0_0.length c0_0), (.slice A0_1 l0_1.length c0_1), (.slice A0_2 l0_2.length c0_2), (.slice A0_3 l0_3.length c0_3), (.slice A0_4 l0_4.length c0_4)] 28 (0, 0))) ∧ Aside0 (Below w.heap.size w w'))
     case atStart => exact ⟨(0), tQ, H', ⟨Nat.le_refl _⟩, ⟨kR HO_7⟩, ⟨kR HO_7⟩, ⟨kK BK601⟩, ⟨kB1 HB GE601⟩⟩
     case round =>
      clear H'
      obtain ⟨x67_3, rfl, HA, HK3, HO_7, HO_65, BK601, HB⟩ := hrel
      cases gk with
      | zero => exact absurd HA.out (by simp [w08_TreeFeeder.l1])
      | succ k3 =>
       have H := HA.out
       clear HA
       simp only [w08_TreeFeeder.l1] at H
       by_cases c30 : x67_3 < (t607.length : Int)
       rotate_left
       ·rw [if_neg c30] at H
        have c30b0 : decide (x67_3 < (t607.length : Int)) = false := decide_eq_false c30
        clear c30
        by_cases c58 : t602 = true
        rotate_left
        ·replace c58 := Bool.eq_false_iff.mpr c58
         subst c58
         have H1 : (some false) = some r := by rw [if_neg (show ¬ (false = true) by decide)] at H; exact H
         clear H
         have H := H1
         clear H1
         obtain rfl := Option.some.inj H
         go_wp2
         repeat (go_quiet (fail); try go_wp2)
         go_ret
         exact ⟨by first | rfl | (simp [errW_none, errW_some] <;> rfl) | (simp [*, errW_none, errW_some] <;> rfl), kB1 HB GE601⟩
        subst c58
        have H1 : (if 0 < (t607.length : Int) then (some ((wrap64 ((wrap64 (((rd_T55 t607 0).f0) + ((rd_T55 t607 0).f1))) + ((rd_T55 t607 0).f2))) == x9_2)) else (none)) = some r := by rw [if_pos rfl] at H; exact H
        clear H
        have H := H1
        clear H1
        by_cases c59 : 0 < (t607.length : Int)
        rotate_left
        ·rw [if_neg c59] at H
         exact absurd H (by simp)
        rw [if_pos c59] at H
        have c59b0 : decide (0 < (t607.length : Int)) = true := decide_eq_true c59
        have c59b1 : decide (0 < t607.length) = true := decide_eq_true (by omega)
        clear c59
        obtain rfl := Option.some.inj H
        have p614 : 0 ≤ (0 : Int) := (by omega)
        have q614 : 0 < (t607.length : Int) := tD
        obtain ⟨ad614, e614, hx614_0, hx614_1, hx614_2⟩ := at_T55 (Kd.R_reads' HO_7.out).2.2 0 p614 q614
        cases e614
        have qi614 : (0 < t607.length) = True := eq_true (by omega)
        (try rw [show ((0 : Int)).toNat = 0 from rfl] at hx614_0)
        (try rw [show 0 * 3 = 0 from rfl] at hx614_0)
        (try rw [Addr.add_zero'] at hx614_0)
        (try rw [show ((0 : Int)).toNat = 0 from rfl] at hx614_1)
        (try rw [show 0 * 3 = 0 from rfl] at hx614_1)
        (try rw [Addr.add_zero'] at hx614_1)
        (try rw [show ((0 : Int)).toNat = 0 from rfl] at hx614_2)
        (try rw [show 0 * 3 = 0 from rfl] at hx614_2)
        (try rw [Addr.add_zero'] at hx614_2)
        replace p614 := eq_true p614
        replace q614 := eq_true q614
        have p615 : 0 ≤ (0 : Int) := (by omega)
        have q615 : 0 < (t607.length : Int) := tD
        obtain ⟨ad615, e615, hx615_0, hx615_1, hx615_2⟩ := at_T55 (Kd.R_reads' HO_7.out).2.2 0 p615 q615
        obtain rfl : ad614 = ad615 := (by injection e615)
        have qi615 : (0 < t607.length) = True := eq_true (by omega)
        (try rw [show ((0 : Int)).toNat = 0 from rfl] at hx615_0)
        (try rw [show 0 * 3 = 0 from rfl] at hx615_0)
        (try rw [Addr.add_zero'] at hx615_0)
        (try rw [show ((0 : Int)).toNat = 0 from rfl] at hx615_1)
        (try rw [show 0 * 3 = 0 from rfl] at hx615_1)
        (try rw [Addr.add_zero'] at hx615_1)
        (try rw [show ((0 : Int)).toNat = 0 from rfl] at hx615_2)
        (try rw [show 0 * 3 = 0 from rfl] at hx615_2)
        (try rw [Addr.add_zero'] at hx615_2)
        replace p615 := eq_true p615
        replace q615 := eq_true q615
        have p616 : 0 ≤ (0 : Int) := (by omega)
        have q616 : 0 < (t607.length : Int) := tD
        obtain ⟨ad616, e616, hx616_0, hx616_1, hx616_2⟩ := at_T55 (Kd.R_reads' HO_7.out).2.2 0 p616 q616
        obtain rfl : ad614 = ad616 := (by injection e616)
        have qi616 : (0 < t607.length) = True := eq_true (by omega)
        (try rw [show ((0 : Int)).toNat = 0 from rfl] at hx616_0)
        (try rw [show 0 * 3 = 0 from rfl] at hx616_0)
        (try rw [Addr.add_zero'] at hx616_0)
        (try rw [show ((0 : Int)).toNat = 0 from rfl] at hx616_1)
        (try rw [show 0 * 3 = 0 from rfl] at hx616_1)
        (try rw [Addr.add_zero'] at hx616_1)
        (try rw [show ((0 : Int)).toNat = 0 from rfl] at hx616_2)
        (try rw [show 0 * 3 = 0 from rfl] at hx616_2)
        (try rw [Addr.add_zero'] at hx616_2)
        replace p616 := eq_true p616
        replace q616 := eq_true q616
        go_wp2
        repeat (go_quiet (fail); try go_wp2)
        go_ret
        exact ⟨by first | rfl | (simp [errW_none, errW_some] <;> rfl) | (simp [*, errW_none, errW_some] <;> rfl), kB1 HB GE601⟩
       rw [if_pos c30] at H
       have c30b0 : decide (x67_3 < (t607.length : Int)) = true := decide_eq_true c30
       clear c30
       by_cases c31 : 0 ≤ x67_3
       rotate_left
       ·rw [if_neg c31] at H
        exact absurd H (by simp)
       rw [if_pos c31] at H
       have c31b0 : decide (0 ≤ x67_3) = true := decide_eq_true c31
       clear c31
       by_cases c32 : x67_3 < (t607.length : Int)
       rotate_left
       ·rw [if_neg c32] at H
        exact absurd H (by simp)
       rw [if_pos c32] at H
       have c32b0 : decide (x67_3 < (t607.length : Int)) = true := decide_eq_true c32
       clear c32
       have H' := Aside0.mk H
       clear H
       have p617 : 0 ≤ (x67_3 : Int) := tD
       have q617 : x67_3 < (t607.length : Int) := tD
       obtain ⟨ad617, e617, hx617_0, hx617_1, hx617_2⟩ := at_T55 (Kd.R_reads' HO_65.out).2.2 x67_3 p617 q617
       cases e617
       replace p617 := eq_true p617
       replace q617 := eq_true q617
       go_wp2_with (first | ((with_reducible refine gate_dst (N := 13) rfl ?_); (try (refine gate_guard (by rfl) ?_; dsimp only)); refine box_event ?hg (N := 13) ?hd (cs := #[.int .i64 0, .int .i64 0, .int .i64 0]) (t := 55) ?hr ?_; (case hd => rfl); (case hg => rfl); (case hr => first | (go_simp; done) | (go_simp; rfl)); intro gb618 hg w33 hbox hb; have n0_ := Aside0.mk (Kd.R_below (Kd.R_elderB (kR HO_7) gb618 (Nat.le_of_eq hg.symm)) hb); have n1_ := Aside0.mk (Kd.R_below (Kd.R_elderB (kR HO_65) gb618 (Nat.le_of_eq hg.symm)) hb); have n2_ := Aside0.mk (blk_below (g := gb601) (o := .cells #[.slice A0_0 l0_0.length c0_0, .slice A0_1 l0_1.length c0_1, .slice A0_2 l0_2.length c0_2, .slice A0_3 l0_3.length c0_3, .slice A0_4 l0_4.length c0_4] 28 (0, 0)) (kK BK601) hb); have n3_ := Aside0.mk (below_step (kB1 HB GE601) hb); have n4_ := Aside0.mk (hbox); have n5_ := Aside0.mk ((by rw [hg]; exact (below_size (kB1 HB GE601)) : w.heap.size ≤ gb618)); have n6_ := Aside0.mk ((by rw [hg]; exact (below_size (kB1 HB GE601)) : w.heap.size ≤ gb618)); have n7_ := Aside0.mk ((by rw [hg]; exact Nat.ne_of_lt (blk_lt (g := gb601) (o := .cells #[.slice A0_0 l0_0.length c0_0, .slice A0_1 l0_1.length c0_1, .slice A0_2 l0_2.length c0_2, .slice A0_3 l0_3.length c0_3, .slice A0_4 l0_4.length c0_4] 28 (0, 0)) (kK BK601)) : gb601 ≠ gb618)); have n8_ := Aside0.mk ((by rw [hg]; exact Nat.ne_of_gt (blk_lt (g := gb601) (o := .cells #[.slice A0_0 l0_0.length c0_0, .slice A0_1 l0_1.length c0_1, .slice A0_2 l0_2.length c0_2, .slice A0_3 l0_3.length c0_3, .slice A0_4 l0_4.length c0_4] 28 (0, 0)) (kK BK601)) : gb618 ≠ gb601)); clear HO_7; clear HO_65; clear BK601; clear HB; have HO_7 := n0_; have HO_65 := n1_; have BK601 := n2_; have HB := n3_; have BK618 := n4_; have GW618 := n5_; have GE618 := n6_; have NB601_618 := n7_; have NB618_601 := n8_; clear n0_ n1_ n2_ n3_ n4_ n5_ n6_ n7_ n8_; clear hb hbox hg; have hnb34 := NB618_601.out; have hnc34 := NB601_618.out; obtain ⟨⟨hcz35_0, hcz35_1, hcz35_2⟩, hfz35_0, hfz35_1, hfz35_2⟩ := bx3 BK618))
       repeat (go_quiet (first | ((with_reducible refine gate_dst (N := 13) rfl ?_); (try (refine gate_guard (by rfl) ?_; dsimp only)); refine box_event ?hg (N := 13) ?hd (cs := #[.int .i64 0, .int .i64 0, .int .i64 0]) (t := 55) ?hr ?_; (case hd => rfl); (case hg => rfl); (case hr => first | (go_simp; done) | (go_simp; rfl)); intro gb618 hg w33 hbox hb; have n0_ := Aside0.mk (Kd.R_below (Kd.R_elderB (kR HO_7) gb618 (Nat.le_of_eq hg.symm)) hb); have n1_ := Aside0.mk (Kd.R_below (Kd.R_elderB (kR HO_65) gb618 (Nat.le_of_eq hg.symm)) hb); have n2_ := Aside0.mk (blk_below (g := gb601) (o := .cells #[.slice A0_0 l0_0.length c0_0, .slice A0_1 l0_1.length c0_1, .slice A0_2 l0_2.length c0_2, .slice A0_3 l0_3.length c0_3, .slice A0_4 l0_4.length c0_4] 28 (0, 0)) (kK BK601) hb); have n3_ := Aside0.mk (below_step (kB1 HB GE601) hb); have n4_ := Aside0.mk (hbox); have n5_ := Aside0.mk ((by rw [hg]; exact (below_size (kB1 HB GE601)) : w.heap.size ≤ gb618)); have n6_ := Aside0.mk ((by rw [hg]; exact (below_size (kB1 HB GE601)) : w.heap.size ≤ gb618)); have n7_ := Aside0.mk ((by rw [hg]; exact Nat.ne_of_lt (blk_lt (g := gb601) (o := .cells #[.slice A0_0 l0_0.length c0_0, .slice A0_1 l0_1.length c0_1, .slice A0_2 l0_2.length c0_2, .slice A0_3 l0_3.length c0_3, .slice A0_4 l0_4.length c0_4] 28 (0, 0)) (kK BK601)) : gb601 ≠ gb618)); have n8_ := Aside0.mk ((by rw [hg]; exact Nat.ne_of_gt (blk_lt (g := gb601) (o := .cells #[.slice A0_0 l0_0.length c0_0, .slice A0_1 l0_1.length c0_1, .slice A0_2 l0_2.length c0_2, .slice A0_3 l0_3.length c0_3, .slice A0_4 l0_4.length c0_4] 28 (0, 0)) (kK BK601)) : gb618 ≠ gb601)); clear HO_7; clear HO_65; clear BK601; clear HB; have HO_7 := n0_; have HO_65 := n1_; have BK601 := n2_; have HB := n3_; have BK618 := n4_; have GW618 := n5_; have GE618 := n6_; have NB601_618 := n7_; have NB618_601 := n8_; clear n0_ n1_ n2_ n3_ n4_ n5_ n6_ n7_ n8_; clear hb hbox hg; have hnb34 := NB618_601.out; have hnc34 := NB601_618.out; obtain ⟨⟨hcz35_0, hcz35_1, hcz35_2⟩, hfz35_0, hfz35_1, hfz35_2⟩ := bx3 BK618)); try go_wp2_with (first | ((with_reducible refine gate_dst (N := 13) rfl ?_); (try (refine gate_guard (by rfl) ?_; dsimp only)); refine box_event ?hg (N := 13) ?hd (cs := #[.int .i64 0, .int .i64 0, .int .i64 0]) (t := 55) ?hr ?_; (case hd => rfl); (case hg => rfl); (case hr => first | (go_simp; done) | (go_simp; rfl)); intro gb618 hg w33 hbox hb; have n0_ := Aside0.mk (Kd.R_below (Kd.R_elderB (kR HO_7) gb618 (Nat.le_of_eq hg.symm)) hb); have n1_ := Aside0.mk (Kd.R_below (Kd.R_elderB (kR HO_65) gb618 (Nat.le_of_eq hg.symm)) hb); have n2_ := Aside0.mk (blk_below (g := gb601) (o := .cells #[.slice A0_0 l0_0.length c0_0, .slice A0_1 l0_1.length c0_1, .slice A0_2 l0_2.length c0_2, .slice A0_3 l0_3.length c0_3, .slice A0_4 l0_4.length c0_4] 28 (0, 0)) (kK BK601) hb); have n3_ := Aside0.mk (below_step (kB1 HB GE601) hb); have n4_ := Aside0.mk (hbox); have n5_ := Aside0.mk ((by rw [hg]; exact (below_size (kB1 HB GE601)) : w.heap.size ≤ gb618)); have n6_ := Aside0.mk ((by rw [hg]; exact (below_size (kB1 HB GE601)) : w.heap.size ≤ gb618)); have n7_ := Aside0.mk ((by rw [hg]; exact Nat.ne_of_lt (blk_lt (g := gb601) (o := .cells #[.slice A0_0 l0_0.length c0_0, .slice A0_1 l0_1.length c0_1, .slice A0_2 l0_2.length c0_2, .slice A0_3 l0_3.length c0_3, .slice A0_4 l0_4.length c0_4] 28 (0, 0)) (kK BK601)) : gb601 ≠ gb618)); have n8_ := Aside0.mk ((by rw [hg]; exact Nat.ne_of_gt (blk_lt (g := gb601) (o := .cells #[.slice A0_0 l0_0.length c0_0, .slice A0_1 l0_1.length c0_1, .slice A0_2 l0_2.length c0_2, .slice A0_3 l0_3.length c0_3, .slice A0_4 l0_4.length c0_4] 28 (0, 0)) (kK BK601)) : gb618 ≠ gb601)); clear HO_7; clear HO_65; clear BK601; clear HB; have HO_7 := n0_; have HO_65 := n1_; have BK601 := n2_; have HB := n3_; have BK618 := n4_; have GW618 := n5_; have GE618 := n6_; have NB601_618 := n7_; have NB618_601 := n8_; clear n0_ n1_ n2_ n3_ n4_ n5_ n6_ n7_ n8_; clear hb hbox hg; have hnb34 := NB618_601.out; have hnc34 := NB601_618.out; obtain ⟨⟨hcz35_0, hcz35_1, hcz35_2⟩, hfz35_0, hfz35_1, hfz35_2⟩ := bx3 BK618)))
       go_loopg [71] k3 (fun kq v71 w' => ∃ (x71_4 : Int), v71 = .int .i64 x71_4 ∧ Aside0 (w08_TreeFeeder.l2 kq t602 t607 x9_2 t607 (t607.length : Int) x67_3 x71_4 ((rd_T55 t607 x67_3).f0) ((rd_T55 t607 x67_3).f1) ((rd_T55 t607 x67_3).f2) = some r) ∧ Aside0 (kq ≤ k3) ∧ Aside0 (Kd.R k55 55 w' w.heap.size (fun k_ => k_ ≠ gb618) (.slice (some ad617) t607.length co29) t607) ∧ Aside0 (Kd.R k55 55 w' w.heap.size (fun k_ => k_ ≠ gb618) (.slice (some ad617) t607.length co29) t607) ∧ Aside0 (w'.heap[gb601]? = some (.cells #[(.slice A0_0 l0_0.length c0_0), (.slice A0_1 l0_1.length c0_1), (.slice A0_2 l0_2.length c0_2), (.slice A0_3 l0_3.length c0_3), (.slice A0_4 l0_4.length c0_4)] 28 (0, 0))) ∧ Aside0 (w'.heap[gb618]? = some (.cells #[.int .i64 ((rd_T55 t607 x67_3).f0), .int .i64 ((rd_T55 t607 x67_3).f1), .int .i64 ((rd_T55 t607 x67_3).f2)] 55 (0, 0))) ∧ Aside0 (Below w.heap.size w w'))
       case atStart => exact ⟨(0), tQ, H', ⟨Nat.le_refl _⟩, ⟨by (with_reducible repeat (first | apply Kd.R_alloc | apply Kd.R_drewN | apply Kd.R_drew)); exact Kd.R_mono (Kd.R_far (p := ⟨gb618, 2, none⟩) (Kd.R_far (p := ⟨gb618, 1, none⟩) (Kd.R_far (p := ⟨gb618, 0, none⟩) (Kd.R_mono HO_7.out (fun k_ hk => (⟨hk, hk.2⟩ : _ ∧ k_ ≠ gb618))) (fun _ hk => hk.2) (.int .i64 ((rd_T55 t607 x67_3).f0))) (fun _ hk => hk.2) (.int .i64 ((rd_T55 t607 x67_3).f1))) (fun _ hk => hk.2) (.int .i64 ((rd_T55 t607 x67_3).f2))) (fun _ hk => hk.1.2)⟩, ⟨by (with_reducible repeat (first | apply Kd.R_alloc | apply Kd.R_drewN | apply Kd.R_drew)); exact Kd.R_mono (Kd.R_far (p := ⟨gb618, 2, none⟩) (Kd.R_far (p := ⟨gb618, 1, none⟩) (Kd.R_far (p := ⟨gb618, 0, none⟩) (Kd.R_mono HO_65.out (fun k_ hk => (⟨hk, hk.2⟩ : _ ∧ k_ ≠ gb618))) (fun _ hk => hk.2) (.int .i64 ((rd_T55 t607 x67_3).f0))) (fun _ hk => hk.2) (.int .i64 ((rd_T55 t607 x67_3).f1))) (fun _ hk => hk.2) (.int .i64 ((rd_T55 t607 x67_3).f2))) (fun _ hk => hk.1.2)⟩, ⟨by (with_reducible repeat (first | refine blk_drewN ?_ _ | refine blk_drew ?_ | refine blk_alloc ?_ _)); refine blk_far ?_ NB601_618.out _; (with_reducible repeat (first | refine blk_drewN ?_ _ | refine blk_drew ?_ | refine blk_alloc ?_ _)); refine blk_far ?_ NB601_618.out _; (with_reducible repeat (first | refine blk_drewN ?_ _ | refine blk_drew ?_ | refine blk_alloc ?_ _)); refine blk_far ?_ NB601_618.out _; (with_reducible repeat (first | refine blk_drewN ?_ _ | refine blk_drew ?_ | refine blk_alloc ?_ _)); exact BK601.out⟩, ⟨by (with_reducible repeat (first | refine blk_drewN ?_ _ | refine blk_drew ?_ | refine blk_alloc ?_ _)); refine blk_put (cs := #[.int .i64 ((rd_T55 t607 x67_3).f0), .int .i64 ((rd_T55 t607 x67_3).f1), .int .i64 0]) ?_ 2 _ rfl; (with_reducible repeat (first | refine blk_drewN ?_ _ | refine blk_drew ?_ | refine blk_alloc ?_ _)); refine blk_put (cs := #[.int .i64 ((rd_T55 t607 x67_3).f0), .int .i64 0, .int .i64 0]) ?_ 1 _ rfl; (with_reducible repeat (first | refine blk_drewN ?_ _ | refine blk_drew ?_ | refine blk_alloc ?_ _)); refine blk_put (cs := #[.int .i64 0, .int .i64 0, .int .i64 0]) ?_ 0 _ rfl; (with_reducible repeat (first | refine blk_drewN ?_ _ | refine blk_drew ?_ | refine blk_alloc ?_ _)); exact BK618.out⟩, ⟨kB2 HB GE601 GE618⟩⟩
       case round =>
        clear H'
        obtain ⟨x71_4, rfl, HA, HK4, HO_7, HO_65, BK601, BK618, HB⟩ := hrel
        cases gk with
        | zero => exact absurd HA.out (by simp [w08_TreeFeeder.l2])
        | succ k4 =>
         have H := HA.out
         clear HA
         simp only [w08_TreeFeeder.l2] at H
         by_cases c36 : x71_4 < 3
         rotate_left
         ·rw [if_neg c36] at H
          have c36b0 : decide (x71_4 < 3) = false := decide_eq_false c36
          clear c36
          have H' := Aside0.mk H
          clear H
          go_wp2
          repeat (go_quiet (fail); try go_wp2)
          go_roundg k4
          case measure => have := HJ7.out; have := HK2.out; have := HK3.out; have := HK4.out; omega
          case rel => exact ⟨(wrap64 (x67_3 + 1)), tQ, H', ⟨by have := HJ7.out; have := HK2.out; have := HK3.out; have := HK4.out; omega⟩, ⟨by (with_reducible repeat (first | apply Kd.R_alloc | apply Kd.R_drewN | apply Kd.R_drew)); exact Kd.R_mono HO_7.out (fun _ hk => trivial)⟩, ⟨by (with_reducible repeat (first | apply Kd.R_alloc | apply Kd.R_drewN | apply Kd.R_drew)); exact Kd.R_mono HO_65.out (fun _ hk => trivial)⟩, ⟨kK BK601⟩, ⟨kB2 HB GE601 GE618⟩⟩
         rw [if_pos c36] at H
         have c36b0 : decide (x71_4 < 3) = true := decide_eq_true c36
         clear c36
         by_cases c37 : x71_4 = 0
         ·rw [if_pos c37] at H
          have c37b0 : (x71_4 == 0) = true := beq_iff_eq.mpr c37
          have c37b1 : (x71_4 != 0) = false := bne_eq_false_iff_eq.mpr c37
          have c37b2 : ∀ (a_ : Addr) (W_ : World), (Instr.indexAt 55 (.pointer (some a_)) (.int .i64 x71_4)).run Try.prog W_ = .ok (.pointer (some (a_.add 0))) W_ := fun a_ W_ => ix_arr Try.underlying55 (fun W_ => by go_simp) 0 (by decide) x71_4 c37 a_ W_
          clear c37
          by_cases c38 : 0 < (t607.length : Int)
          rotate_left
          ·rw [if_neg c38] at H
           exact absurd H (by simp)
          rw [if_pos c38] at H
          have c38b0 : decide (0 < (t607.length : Int)) = true := decide_eq_true c38
          have c38b1 : decide (0 < t607.length) = true := decide_eq_true (by omega)
          clear c38
          by_cases c39 : ((rd_T55 t607 x67_3).f0) > ((rd_T55 t607 0).f0)
          ·rw [if_pos c39] at H
           have c39b0 : decide (((rd_T55 t607 0).f0) < ((rd_T55 t607 x67_3).f0)) = true := decide_eq_true c39
           clear c39
           obtain rfl := Option.some.inj H
           have hnb40 := NB618_601.out
           have hnc40 := NB601_618.out
           obtain ⟨⟨hcz41_0, hcz41_1, hcz41_2⟩, hfz41_0, hfz41_1, hfz41_2⟩ := bx3 BK618
           have p619 : 0 ≤ (0 : Int) := (by omega)
           have q619 : 0 < (t607.length : Int) := tD
           obtain ⟨ad619, e619, hx619_0, hx619_1, hx619_2⟩ := at_T55 (Kd.R_reads' HO_7.out).2.2 0 p619 q619
           obtain rfl : ad617 = ad619 := (by injection e619)
           have qi619 : (0 < t607.length) = True := eq_true (by omega)
           (try rw [show ((0 : Int)).toNat = 0 from rfl] at hx619_0)
           (try rw [show 0 * 3 = 0 from rfl] at hx619_0)
           (try rw [Addr.add_zero'] at hx619_0)
           (try rw [show ((0 : Int)).toNat = 0 from rfl] at hx619_1)
           (try rw [show 0 * 3 = 0 from rfl] at hx619_1)
           (try rw [Addr.add_zero'] at hx619_1)
           (try rw [show ((0 : Int)).toNat = 0 from rfl] at hx619_2)
           (try rw [show 0 * 3 = 0 from rfl] at hx619_2)
           (try rw [Addr.add_zero'] at hx619_2)
           replace p619 := eq_true p619
           replace q619 := eq_true q619
           go_wp2
           repeat (go_quiet (fail); try go_wp2)
           go_ret
           exact ⟨by first | rfl | (simp [errW_none, errW_some] <;> rfl) | (simp [*, errW_none, errW_some] <;> rfl), kB2 HB GE601 GE618⟩
          rw [if_neg c39] at H
          have c39b0 : decide (((rd_T55 t607 0).f0) < ((rd_T55 t607 x67_3).f0)) = false := decide_eq_false c39
          clear c39
          have H' := Aside0.mk H
          clear H
          have hnb42 := NB618_601.out
          have hnc42 := NB601_618.out
          obtain ⟨⟨hcz43_0, hcz43_1, hcz43_2⟩, hfz43_0, hfz43_1, hfz43_2⟩ := bx3 BK618
          have p619 : 0 ≤ (0 : Int) := (by omega)
          have q619 : 0 < (t607.length : Int) := tD
          obtain ⟨ad619, e619, hx619_0, hx619_1, hx619_2⟩ := at_T55 (Kd.R_reads' HO_7.out).2.2 0 p619 q619
          obtain rfl : ad617 = ad619 := (by injection e619)
          have qi619 : (0 < t607.length) = True := eq_true (by omega)
          (try rw [show ((0 : Int)).toNat = 0 from rfl] at hx619_0)
          (try rw [show 0 * 3 = 0 from rfl] at hx619_0)
          (try rw [Addr.add_zero'] at hx619_0)
          (try rw [show ((0 : Int)).toNat = 0 from rfl] at hx619_1)
          (try rw [show 0 * 3 = 0 from rfl] at hx619_1)
          (try rw [Addr.add_zero'] at hx619_1)
          (try rw [show ((0 : Int)).toNat = 0 from rfl] at hx619_2)
          (try rw [show 0 * 3 = 0 from rfl] at hx619_2)
          (try rw [Addr.add_zero'] at hx619_2)
          replace p619 := eq_true p619
          replace q619 := eq_true q619
          go_wp2
          repeat (go_quiet (fail); try go_wp2)
          go_roundg k4
          case measure => have := HJ7.out; have := HK2.out; have := HK3.out; have := HK4.out; omega
          case rel => exact ⟨(wrap64 (x71_4 + 1)), tQ, H', ⟨by have := HJ7.out; have := HK2.out; have := HK3.out; have := HK4.out; omega⟩, ⟨kR HO_7⟩, ⟨kR HO_65⟩, ⟨kK BK601⟩, ⟨kK BK618⟩, ⟨kB2 HB GE601 GE618⟩⟩
         rw [if_neg c37] at H
         have c37b0 : (x71_4 == 0) = false := beq_eq_false_iff_ne.mpr c37
         have c37b1 : (x71_4 != 0) = true := bne_iff_ne.mpr c37
         by_cases c44 : x71_4 = 1
         ·rw [if_pos c44] at H
          have c44b0 : (x71_4 == 1) = true := beq_iff_eq.mpr c44
          have c44b1 : (x71_4 != 1) = false := bne_eq_false_iff_eq.mpr c44
          have c44b2 : ∀ (a_ : Addr) (W_ : World), (Instr.indexAt 55 (.pointer (some a_)) (.int .i64 x71_4)).run Try.prog W_ = .ok (.pointer (some (a_.add 1))) W_ := fun a_ W_ => ix_arr Try.underlying55 (fun W_ => by go_simp) 1 (by decide) x71_4 c44 a_ W_
          clear c44
          by_cases c45 : 0 < (t607.length : Int)
          rotate_left
          ·rw [if_neg c45] at H
           exact absurd H (by simp)
          rw [if_pos c45] at H
          have c45b0 : decide (0 < (t607.length : Int)) = true := decide_eq_true c45
          have c45b1 : decide (0 < t607.length) = true := decide_eq_true (by omega)
          clear c45
          by_cases c46 : ((rd_T55 t607 x67_3).f1) > ((rd_T55 t607 0).f1)
          ·rw [if_pos c46] at H
           have c46b0 : decide (((rd_T55 t607 0).f1) < ((rd_T55 t607 x67_3).f1)) = true := decide_eq_true c46
           clear c46
           obtain rfl := Option.some.inj H
           have hnb47 := NB618_601.out
           have hnc47 := NB601_618.out
           obtain ⟨⟨hcz48_0, hcz48_1, hcz48_2⟩, hfz48_0, hfz48_1, hfz48_2⟩ := bx3 BK618
           have p620 : 0 ≤ (0 : Int) := (by omega)
           have q620 : 0 < (t607.length : Int) := tD
           obtain ⟨ad620, e620, hx620_0, hx620_1, hx620_2⟩ := at_T55 (Kd.R_reads' HO_7.out).2.2 0 p620 q620
           obtain rfl : ad617 = ad620 := (by injection e620)
           have qi620 : (0 < t607.length) = True := eq_true (by omega)
           (try rw [show ((0 : Int)).toNat = 0 from rfl] at hx620_0)
           (try rw [show 0 * 3 = 0 from rfl] at hx620_0)
           (try rw [Addr.add_zero'] at hx620_0)
           (try rw [show ((0 : Int)).toNat = 0 from rfl] at hx620_1)
           (try rw [show 0 * 3 = 0 from rfl] at hx620_1)
           (try rw [Addr.add_zero'] at hx620_1)
           (try rw [show ((0 : Int)).toNat = 0 from rfl] at hx620_2)
           (try rw [show 0 * 3 = 0 from rfl] at hx620_2)
           (try rw [Addr.add_zero'] at hx620_2)
           replace p620 := eq_true p620
           replace q620 := eq_true q620
           go_wp2
           repeat (go_quiet (fail); try go_wp2)
           go_ret
           exact ⟨by first | rfl | (simp [errW_none, errW_some] <;> rfl) | (simp [*, errW_none, errW_some] <;> rfl), kB2 HB GE601 GE618⟩
          rw [if_neg c46] at H
          have c46b0 : decide (((rd_T55 t607 0).f1) < ((rd_T55 t607 x67_3).f1)) = false := decide_eq_false c46
          clear c46
          have H' := Aside0.mk H
          clear H
          have hnb49 := NB618_601.out
          have hnc49 := NB601_618.out
          obtain ⟨⟨hcz50_0, hcz50_1, hcz50_2⟩, hfz50_0, hfz50_1, hfz50_2⟩ := bx3 BK618
          have p620 : 0 ≤ (0 : Int) := (by omega)
          have q620 : 0 < (t607.length : Int) := tD
          obtain ⟨ad620, e620, hx620_0, hx620_1, hx620_2⟩ := at_T55 (Kd.R_reads' HO_7.out).2.2 0 p620 q620
          obtain rfl : ad617 = ad620 := (by injection e620)
          have qi620 : (0 < t607.length) = True := eq_true (by omega)
          (try rw [show ((0 : Int)).toNat = 0 from rfl] at hx620_0)
          (try rw [show 0 * 3 = 0 from rfl] at hx620_0)
          (try rw [Addr.add_zero'] at hx620_0)
          (try rw [show ((0 : Int)).toNat = 0 from rfl] at hx620_1)
          (try rw [show 0 * 3 = 0 from rfl] at hx620_1)
          (try rw [Addr.add_zero'] at hx620_1)
          (try rw [show ((0 : Int)).toNat = 0 from rfl] at hx620_2)
          (try rw [show 0 * 3 = 0 from rfl] at hx620_2)
          (try rw [Addr.add_zero'] at hx620_2)
          replace p620 := eq_true p620
          replace q620 := eq_true q620
          go_wp2
          repeat (go_quiet (fail); try go_wp2)
          go_roundg k4
          case measure => have := HJ7.out; have := HK2.out; have := HK3.out; have := HK4.out; omega
          case rel => exact ⟨(wrap64 (x71_4 + 1)), tQ, H', ⟨by have := HJ7.out; have := HK2.out; have := HK3.out; have := HK4.out; omega⟩, ⟨kR HO_7⟩, ⟨kR HO_65⟩, ⟨kK BK601⟩, ⟨kK BK618⟩, ⟨kB2 HB GE601 GE618⟩⟩
         rw [if_neg c44] at H
         have c44b0 : (x71_4 == 1) = false := beq_eq_false_iff_ne.mpr c44
         have c44b1 : (x71_4 != 1) = true := bne_iff_ne.mpr c44
         by_cases c51 : x71_4 = 2
         rotate_left
         ·rw [if_neg c51] at H
          exact absurd H (by simp)
         rw [if_pos c51] at H
         have c51b0 : (x71_4 == 2) = true := beq_iff_eq.mpr c51
         have c51b1 : (x71_4 != 2) = false := bne_eq_false_iff_eq.mpr c51
         have c51b2 : ∀ (a_ : Addr) (W_ : World), (Instr.indexAt 55 (.pointer (some a_)) (.int .i64 x71_4)).run Try.prog W_ = .ok (.pointer (some (a_.add 2))) W_ := fun a_ W_ => ix_arr Try.underlying55 (fun W_ => by go_simp) 2 (by decide) x71_4 c51 a_ W_
         clear c51
         by_cases c52 : 0 < (t607.length : Int)
         rotate_left
         ·rw [if_neg c52] at H
          exact absurd H (by simp)
         rw [if_pos c52] at H
         have c52b0 : decide (0 < (t607.length : Int)) = true := decide_eq_true c52
         have c52b1 : decide (0 < t607.length) = true := decide_eq_true (by omega)
         clear c52
         by_cases c53 : ((rd_T55 t607 x67_3).f2) > ((rd_T55 t607 0).f2)
         ·rw [if_pos c53] at H
          have c53b0 : decide (((rd_T55 t607 0).f2) < ((rd_T55 t607 x67_3).f2)) = true := decide_eq_true c53
          clear c53
          obtain rfl := Option.some.inj H
          have hnb54 := NB618_601.out
          have hnc54 := NB601_618.out
          obtain ⟨⟨hcz55_0, hcz55_1, hcz55_2⟩, hfz55_0, hfz55_1, hfz55_2⟩ := bx3 BK618
          have p621 : 0 ≤ (0 : Int) := (by omega)
          have q621 : 0 < (t607.length : Int) := tD
          obtain ⟨ad621, e621, hx621_0, hx621_1, hx621_2⟩ := at_T55 (Kd.R_reads' HO_7.out).2.2 0 p621 q621
          obtain rfl : ad617 = ad621 := (by injection e621)
          have qi621 : (0 < t607.length) = True := eq_true (by omega)
          (try rw [show ((0 : Int)).toNat = 0 from rfl] at hx621_0)
          (try rw [show 0 * 3 = 0 from rfl] at hx621_0)
          (try rw [Addr.add_zero'] at hx621_0)
          (try rw [show ((0 : Int)).toNat = 0 from rfl] at hx621_1)
          (try rw [show 0 * 3 = 0 from rfl] at hx621_1)
          (try rw [Addr.add_zero'] at hx621_1)
          (try rw [show ((0 : Int)).toNat = 0 from rfl] at hx621_2)
          (try rw [show 0 * 3 = 0 from rfl] at hx621_2)
          (try rw [Addr.add_zero'] at hx621_2)
          replace p621 := eq_true p621
          replace q621 := eq_true q621
          go_wp2
          repeat (go_quiet (fail); try go_wp2)
          go_ret
          exact ⟨by first | rfl | (simp [errW_none, errW_some] <;> rfl) | (simp [*, errW_none, errW_some] <;> rfl), kB2 HB GE601 GE618⟩
         rw [if_neg c53] at H
         have c53b0 : decide (((rd_T55 t607 0).f2) < ((rd_T55 t607 x67_3).f2)) = false := decide_eq_false c53
         clear c53
         have H' := Aside0.mk H
         clear H
         have hnb56 := NB618_601.out
         have hnc56 := NB601_618.out
         obtain ⟨⟨hcz57_0, hcz57_1, hcz57_2⟩, hfz57_0, hfz57_1, hfz57_2⟩ := bx3 BK618
         have p621 : 0 ≤ (0 : Int) := (by omega)
         have q621 : 0 < (t607.length : Int) := tD
         obtain ⟨ad621, e621, hx621_0, hx621_1, hx621_2⟩ := at_T55 (Kd.R_reads' HO_7.out).2.2 0 p621 q621
         obtain rfl : ad617 = ad621 := (by injection e621)
         have qi621 : (0 < t607.length) = True := eq_true (by omega)
         (try rw [show ((0 : Int)).toNat = 0 from rfl] at hx621_0)
         (try rw [show 0 * 3 = 0 from rfl] at hx621_0)
         (try rw [Addr.add_zero'] at hx621_0)
         (try rw [show ((0 : Int)).toNat = 0 from rfl] at hx621_1)
         (try rw [show 0 * 3 = 0 from rfl] at hx621_1)
         (try rw [Addr.add_zero'] at hx621_1)
         (try rw [show ((0 : Int)).toNat = 0 from rfl] at hx621_2)
         (try rw [show 0 * 3 = 0 from rfl] at hx621_2)
         (try rw [Addr.add_zero'] at hx621_2)
         replace p621 := eq_true p621
         replace q621 := eq_true q621
         go_wp2
         repeat (go_quiet (fail); try go_wp2)
         go_roundg k4
         case measure => have := HJ7.out; have := HK2.out; have := HK3.out; have := HK4.out; omega
         case rel => exact ⟨(wrap64 (x71_4 + 1)), tQ, H', ⟨by have := HJ7.out; have := HK2.out; have := HK3.out; have := HK4.out; omega⟩, ⟨kR HO_7⟩, ⟨kR HO_65⟩, ⟨kK BK601⟩, ⟨kK BK618⟩, ⟨kB2 HB GE601 GE618⟩⟩
def w08_TreeFeeder.Pure : Prop := ∀ (s0 : S28) (l1 : List Int), (wfS28 s0) → (l1.length ≤ maxLen ∧ ∀ x_ ∈ l1, (Lit.int .u8 x_).wf = true) → ∃ k, w08_TreeFeeder.f k s0.f0 s0.f1 s0.f2 s0.f3 s0.f4 l1 = some true
theorem w08_TreeFeeder.walk (P : w08_TreeFeeder.Pure) (s0 : S28) (l1 : List Int) (cs0 : Array Value) (A1 : Option Addr) (c1 : Nat) (w : World) (w0 : wfS28 s0) (w1 : l1.length ≤ maxLen ∧ ∀ x_ ∈ l1, (Lit.int .u8 x_).wf = true) (K0 : k28.K w s0 cs0.toList) (C1 : Kd.C (Kd.int .u8) w A1 l1.length l1) (hc1 : l1.length ≤ c1) :
    Calls Try.prog 9 #[.agg cs0, .slice A1 l1.length c1] w fun e w' => e = .returned (.bool true) ∧ Below w.heap.size w w' := by
 obtain ⟨k, h⟩ := P s0 l1 w0 w1
 obtain ⟨A0_0, e0_0, A0_1, e0_1, A0_2, e0_2, A0_3, e0_3, A0_4, e0_4, hs0, hl0_0, hC0_0, hl0_1, hC0_1, hl0_2, hC0_2, hl0_3, hC0_3, hl0_4, hC0_4⟩ := k28_open K0
 obtain ⟨L0⟩ := cs0
 obtain rfl : L0 = _ := hs0
 refine (w08_TreeFeeder.calls k _ _ s0.f0 _ _ s0.f1 _ _ s0.f2 _ _ s0.f3 _ _ s0.f4 _ _ l1 true w hC0_0 hl0_0 hC0_1 hl0_1 hC0_2 hl0_2 hC0_3 hl0_3 hC0_4 hl0_4 C1 hc1 h).mono ?_
 rintro e w' ⟨rfl, hd⟩
 exact ⟨rfl, hd⟩
end Go.Proofs.Ytpdmnineampimaa.Q
