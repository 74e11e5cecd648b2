import Derived.Test.YtpdmnineampimaaYe
import Derived.Test.YtpdmnineampimaaYQx33
set_option linter.unusedVariables false
set_option linter.unusedSimpArgs false
namespace Go.Proofs.Ytpdmnineampimaa.Q
open Go.RowKit Go.Proofs.YtpdmnineampimaaW.PrintWords Go.Proofs.YtpdmnineampimaaW.PrintLast Go.Proofs.YtpdmnineampimaaW.PrintMore
attribute [local go_sem] max2_int min2_int max_two min_two max_three min_three max_four min_four
attribute [local go_sem high] eqA44 eqA46
mutual
def r04_conductor.j0 : Nat → Bool → ByteArray → Int → Int → Int → Int → Int → Int → Int → Int → Int → Int → Option (Bool)
  | 0, _, _, _, _, _, _, _, _, _, _, _, _ => none
  | k + 1, x37, x335000, x335001, x335002, x335003, x335004, x335005, x335006, x335007, x335008, x335009, x335010 => if x37 = true then (some false) else (if (!(x335004 == 0) || (!(x335005 == 0))) = true then ((r04_inside.f x335004 1 1000).bind fun t341 => (if t341 = true then ((r04_inside.f x335005 0 1000000).bind fun t342 => (r04_conductor.j1 k (!t342) x335006 x335007 x335008 x335009 x335010)) else (r04_conductor.j1 k true x335006 x335007 x335008 x335009 x335010))) else (r04_conductor.j1 k false x335006 x335007 x335008 x335009 x335010))
def r04_conductor.j1 : Nat → Bool → Int → Int → Int → Int → Int → Option (Bool)
  | 0, _, _, _, _, _, _ => none
  | k + 1, x56, x341000, x341001, x341002, x341003, x341004 => if x56 = true then (some false) else (if (x341000 == 0 && (x341001 == 0 && (x341002 == 0 && (x341003 == 0 && (x341004 == 0))))) = true then (r04_conductor.j2 k true) else ((r04_inside.f x341000 0 200000).bind fun t343 => (if t343 = true then ((r04_inside.f x341001 (wrap64 (x341000 + 1)) 200000).bind fun t344 => (if t344 = true then ((r04_inside.f x341002 0 1000).bind fun t345 => (if t345 = true then ((r04_inside.f x341003 0 1000).bind fun t346 => (if t346 = true then ((r04_inside.f x341004 1 1000000).bind fun t347 => (r04_conductor.j2 k t347)) else (r04_conductor.j2 k false))) else (r04_conductor.j2 k false))) else (r04_conductor.j2 k false))) else (r04_conductor.j2 k false))))
def r04_conductor.j2 : Nat → Bool → Option (Bool)
  | 0, _ => none
  | k + 1, x4 => some x4
end
def r04_conductor.f (k : Nat) (a0_0 : ByteArray) (a0_1 : Int) (a0_2 : Int) (a0_3 : Int) (a0_4 : Int) (a0_5 : Int) (a0_6 : Int) (a0_7 : Int) (a0_8 : Int) (a0_9 : Int) (a0_10 : Int) (a1 : Int) : Option (Bool) := (r04_inside.f a0_2 1 1000).bind fun t335 => (if t335 = true then ((r04_inside.f a0_3 1 1000).bind fun t336 => (if t336 = true then (if a1 = 0 then (if a0_1 = (-1) then (if a1 > 0 then ((r04_inside.f a0_1 0 (wrap64 (a1 - 1))).bind fun t337 => (r04_conductor.j0 k (!t337) a0_0 a0_1 a0_2 a0_3 a0_4 a0_5 a0_6 a0_7 a0_8 a0_9 a0_10)) else (r04_conductor.j0 k false a0_0 a0_1 a0_2 a0_3 a0_4 a0_5 a0_6 a0_7 a0_8 a0_9 a0_10)) else (r04_conductor.j0 k true a0_0 a0_1 a0_2 a0_3 a0_4 a0_5 a0_6 a0_7 a0_8 a0_9 a0_10)) else (if a1 > 0 then ((r04_inside.f a0_1 0 (wrap64 (a1 - 1))).bind fun t338 => (r04_conductor.j0 k (!t338) a0_0 a0_1 a0_2 a0_3 a0_4 a0_5 a0_6 a0_7 a0_8 a0_9 a0_10)) else (r04_conductor.j0 k false a0_0 a0_1 a0_2 a0_3 a0_4 a0_5 a0_6 a0_7 a0_8 a0_9 a0_10))) else (r04_conductor.j0 k true a0_0 a0_1 a0_2 a0_3 a0_4 a0_5 a0_6 a0_7 a0_8 a0_9 a0_10))) else (r04_conductor.j0 k true a0_0 a0_1 a0_2 a0_3 a0_4 a0_5 a0_6 a0_7 a0_8 a0_9 a0_10))
theorem r04_conductor.mono_l : ∀ k, (∀ y0 y1 y2 y3 y4 y5 y6 y7 y8 y9 y10 y11, LeO (r04_conductor.j0 k y0 y1 y2 y3 y4 y5 y6 y7 y8 y9 y10 y11) (r04_conductor.j0 (k + 1) y0 y1 y2 y3 y4 y5 y6 y7 y8 y9 y10 y11)) ∧ (∀ y0 y1 y2 y3 y4 y5, LeO (r04_conductor.j1 k y0 y1 y2 y3 y4 y5) (r04_conductor.j1 (k + 1) y0 y1 y2 y3 y4 y5)) ∧ (∀ y0, LeO (r04_conductor.j2 k y0) (r04_conductor.j2 (k + 1) y0))
  | 0 => ⟨fun _ _ _ _ _ _ _ _ _ _ _ _ r h => by simp [r04_conductor.j0] at h, fun _ _ _ _ _ _ r h => by simp [r04_conductor.j1] at h, fun _ r h => by simp [r04_conductor.j2] at h⟩
  | k + 1 => by
    obtain ⟨ih0, ih1, ih2⟩ := r04_conductor.mono_l k
    refine ⟨?_, ?_, ?_⟩
    · intro y0 y1 y2 y3 y4 y5 y6 y7 y8 y9 y10 y11
      unfold r04_conductor.j0
      repeat' first | (with_reducible apply ih0) | (with_reducible apply ih1) | (with_reducible apply ih2) | (with_reducible exact LeO.refl _) | (with_reducible exact LeO.none _) | (with_reducible refine LeO.ite ?_ ?_) | (with_reducible refine LeO.bind ?_ (fun _ => ?_))
    · intro y0 y1 y2 y3 y4 y5
      unfold r04_conductor.j1
      repeat' first | (with_reducible apply ih0) | (with_reducible apply ih1) | (with_reducible apply ih2) | (with_reducible exact LeO.refl _) | (with_reducible exact LeO.none _) | (with_reducible refine LeO.ite ?_ ?_) | (with_reducible refine LeO.bind ?_ (fun _ => ?_))
    · intro y0
      unfold r04_conductor.j2
      repeat' first | (with_reducible apply ih0) | (with_reducible apply ih1) | (with_reducible apply ih2) | (with_reducible exact LeO.refl _) | (with_reducible exact LeO.none _) | (with_reducible refine LeO.ite ?_ ?_) | (with_reducible refine LeO.bind ?_ (fun _ => ?_))
theorem r04_conductor.mono : ∀ a0 a1 a2 a3 a4 a5 a6 a7 a8 a9 a10 a11 k, LeO (r04_conductor.f k a0 a1 a2 a3 a4 a5 a6 a7 a8 a9 a10 a11) (r04_conductor.f (k + 1) a0 a1 a2 a3 a4 a5 a6 a7 a8 a9 a10 a11) := by
  intro a0 a1 a2 a3 a4 a5 a6 a7 a8 a9 a10 a11 k
  obtain ⟨ih0, ih1, ih2⟩ := r04_conductor.mono_l k
  unfold r04_conductor.f
  repeat' first | (with_reducible apply ih0) | (with_reducible apply ih1) | (with_reducible apply ih2) | (with_reducible exact LeO.refl _) | (with_reducible exact LeO.none _) | (with_reducible refine LeO.ite ?_ ?_) | (with_reducible refine LeO.bind ?_ (fun _ => ?_))
set_option maxHeartbeats 8000000 in
set_option maxRecDepth 100000 in
theorem r04_conductor.calls (k : Nat) (a0_0 : ByteArray) (a0_1 : Int) (a0_2 : Int) (a0_3 : Int) (a0_4 : Int) (a0_5 : Int) (a0_6 : Int) (a0_7 : Int) (a0_8 : Int) (a0_9 : Int) (a0_10 : Int) (a1 : Int) (r : Bool) (w : World) (h : r04_conductor.f k a0_0 a0_1 a0_2 a0_3 a0_4 a0_5 a0_6 a0_7 a0_8 a0_9 a0_10 a1 = some r) :
    Calls Try.prog 48 #[.agg #[.string a0_0, .int .i64 a0_1, .int .i64 a0_2, .int .i64 a0_3, .int .i64 a0_4, .int .i64 a0_5, .int .i64 a0_6, .int .i64 a0_7, .int .i64 a0_8, .int .i64 a0_9, .int .i64 a0_10], .int .i64 a1] w fun e w' => e = .returned (.bool r) ∧ Below w.heap.size w w' := by
 have hu48 := Try.underlying48
 have hu44 := Try.underlying44
 have hu46 := Try.underlying46
 have HB := Aside0.mk (Below.refl w.heap.size w)
 (try unfold r04_conductor.f at h)
 have H := h
 clear h
 have HC3 := Aside0.mk H
 clear H
 go_enter Try.func48, Try.ntmps48
 go_upto_region 1 with (first | ((with_reducible refine gate_dst (N := 2) rfl ?_); refine bE 2 48 #[.string a0_0, .int .i64 a0_1, .int .i64 a0_2, .int .i64 a0_3, .int .i64 a0_4, .int .i64 a0_5, .int .i64 a0_6, .int .i64 a0_7, .int .i64 a0_8, .int .i64 a0_9, .int .i64 a0_10] ?_; intro gb334 hg w4 hbox hb; have BK334 := Aside0.mk hbox; have GW334 := gE hg (kB HB); have GE334 := gE hg (kB HB); replace HB := bS (kB HB) hb; clear hb hbox hg))
 (try simp only [Act.put, List.setIfInBounds_toArray, List.set_cons_zero, List.set_cons_succ])
 go_cut [37] (fun v37 wc => ∃ (kq : Nat) (x37_2 : Bool), v37 = .bool x37_2 ∧ Aside0 (r04_conductor.j0 kq x37_2 a0_0 a0_1 a0_2 a0_3 a0_4 a0_5 a0_6 a0_7 a0_8 a0_9 a0_10 = some r) ∧ Aside0 (kq ≤ k) ∧ Aside0 (wc.heap[gb334]? = some (.cells #[.string a0_0, .int .i64 a0_1, .int .i64 a0_2, .int .i64 a0_3, .int .i64 a0_4, .int .i64 a0_5, .int .i64 a0_6, .int .i64 a0_7, .int .i64 a0_8, .int .i64 a0_9, .int .i64 a0_10] 48 (0, 0))) ∧ Aside0 (Below w.heap.size w wc))
 case first =>
  have H := HC3.out
  clear HC3
  obtain ⟨t335, A5, H⟩ := bnd H
  by_cases c6 : t335 = true
  rotate_left
  ·replace c6 := Bool.eq_false_iff.mpr c6
   subst c6
   replace H := ifF H
   have H' := Aside0.mk H
   clear H
   obtain ⟨⟨_,_,_,_,_,_,_,_,_,_,_⟩,_,_,_,_,_,_,_,_,_,_,_⟩ := bx11 BK334
   go_wp2_with (first | ((with_reducible refine gate_callee (f := 46) rfl ?_); refine gL (some 9) Try.func46 #[.int .i64 a0_2, .int .i64 1, .int .i64 1000] (r04_inside.calls a0_2 1 1000 false _ A5.out) ?_; rintro e w' ⟨rfl, ⟨nd, rfl⟩⟩; refine ⟨_, rfl, ?_⟩))
   go_meet
   case rel => exact ⟨_, (true), tQ, H', ⟨tN⟩, ⟨kK BK334⟩, ⟨kB1 HB GE334⟩⟩
  subst c6
  replace H := ifT H
  obtain ⟨t336, A7, H⟩ := bnd H
  by_cases c8 : t336 = true
  rotate_left
  ·replace c8 := Bool.eq_false_iff.mpr c8
   subst c8
   replace H := ifF H
   have H' := Aside0.mk H
   clear H
   obtain ⟨⟨_,_,_,_,_,_,_,_,_,_,_⟩,_,_,_,_,_,_,_,_,_,_,_⟩ := bx11 BK334
   go_wp2_with (first | ((with_reducible refine gate_callee (f := 46) rfl ?_); refine gL (some 9) Try.func46 #[.int .i64 a0_2, .int .i64 1, .int .i64 1000] (r04_inside.calls a0_2 1 1000 true _ A5.out) ?_; rintro e w' ⟨rfl, ⟨nd, rfl⟩⟩; refine ⟨_, rfl, ?_⟩) | (go_at_call 46; (with_reducible refine (r04_inside.calls a0_3 1 1000 false _ A7.out).mono ?_); rintro e w' ⟨rfl, ⟨nd, rfl⟩⟩))
   go_meet
   case rel => exact ⟨_, (true), tQ, H', ⟨tN⟩, ⟨kK BK334⟩, ⟨kB1 HB GE334⟩⟩
  subst c8
  replace H := ifT H
  by_cases c9 : a1 = 0
  rotate_left
  ·rw [if_neg c9] at H
   have c9b0 : (a1 == 0) = false := beq_eq_false_iff_ne.mpr c9
   have c9b1 : (a1 != 0) = true := bne_iff_ne.mpr c9
   (first | rw [c9b0] | (simp only [i64_w, i32_w]; rw [c9b0]) | skip)
   by_cases c16 : a1 > 0
   rotate_left
   ·rw [if_neg c16] at H
    have c16b0 : decide (0 < a1) = false := decide_eq_false c16
    clear c16
    have H' := Aside0.mk H
    clear H
    obtain ⟨⟨_,_,_,_,_,_,_,_,_,_,_⟩,_,_,_,_,_,_,_,_,_,_,_⟩ := bx11 BK334
    go_wp2_with (first | ((with_reducible refine gate_callee (f := 46) rfl ?_); refine gL (some 9) Try.func46 #[.int .i64 a0_2, .int .i64 1, .int .i64 1000] (r04_inside.calls a0_2 1 1000 true _ A5.out) ?_; rintro e w' ⟨rfl, ⟨nd, rfl⟩⟩; refine ⟨_, rfl, ?_⟩) | (go_at_call 46; (with_reducible refine (r04_inside.calls a0_3 1 1000 true _ A7.out).mono ?_); rintro e w' ⟨rfl, ⟨nd, rfl⟩⟩))
    go_meet
    case rel => exact ⟨_, (false), tQ, H', ⟨tN⟩, ⟨kK BK334⟩, ⟨kB1 HB GE334⟩⟩
   rw [if_pos c16] at H
   have c16b0 : decide (0 < a1) = true := decide_eq_true c16
   clear c16
   obtain ⟨t338, A17, H⟩ := bnd H
   have H' := Aside0.mk H
   clear H
   obtain ⟨⟨_,_,_,_,_,_,_,_,_,_,_⟩,_,_,_,_,_,_,_,_,_,_,_⟩ := bx11 BK334
   go_wp2_with (first | ((with_reducible refine gate_callee (f := 46) rfl ?_); refine gL (some 9) Try.func46 #[.int .i64 a0_2, .int .i64 1, .int .i64 1000] (r04_inside.calls a0_2 1 1000 true _ A5.out) ?_; rintro e w' ⟨rfl, ⟨nd, rfl⟩⟩; refine ⟨_, rfl, ?_⟩) | (go_at_call 46; (with_reducible refine (r04_inside.calls a0_3 1 1000 true _ A7.out).mono ?_); rintro e w' ⟨rfl, ⟨nd, rfl⟩⟩) | (go_at_call 46; (with_reducible refine (r04_inside.calls a0_1 0 (wrap64 (a1 - 1)) t338 _ A17.out).mono ?_); rintro e w' ⟨rfl, ⟨nd, rfl⟩⟩))
   go_meet
   case rel => exact ⟨_, (!t338), tQ, H', ⟨tN⟩, ⟨kK BK334⟩, ⟨kB1 HB GE334⟩⟩
  rw [if_pos c9] at H
  have c9b0 : (a1 == 0) = true := beq_iff_eq.mpr c9
  have c9b1 : (a1 != 0) = false := bne_eq_false_iff_eq.mpr c9
  clear c9
  (first | rw [c9b0] | (simp only [i64_w, i32_w]; rw [c9b0]) | skip)
  by_cases c10 : a0_1 = (-1)
  rotate_left
  ·rw [if_neg c10] at H
   have c10b0 : (a0_1 == (-1)) = false := beq_eq_false_iff_ne.mpr c10
   have c10b1 : (a0_1 != (-1)) = true := bne_iff_ne.mpr c10
   have H' := Aside0.mk H
   clear H
   obtain ⟨⟨_,_,_,_,_,_,_,_,_,_,_⟩,_,_,_,_,_,_,_,_,_,_,_⟩ := bx11 BK334
   go_wp2_with (first | ((with_reducible refine gate_callee (f := 46) rfl ?_); refine gL (some 9) Try.func46 #[.int .i64 a0_2, .int .i64 1, .int .i64 1000] (r04_inside.calls a0_2 1 1000 true _ A5.out) ?_; rintro e w' ⟨rfl, ⟨nd, rfl⟩⟩; refine ⟨_, rfl, ?_⟩) | (go_at_call 46; (with_reducible refine (r04_inside.calls a0_3 1 1000 true _ A7.out).mono ?_); rintro e w' ⟨rfl, ⟨nd, rfl⟩⟩))
   go_meet
   case rel => exact ⟨_, (true), tQ, H', ⟨tN⟩, ⟨kK BK334⟩, ⟨kB1 HB GE334⟩⟩
  rw [if_pos c10] at H
  have c10b0 : (a0_1 == (-1)) = true := beq_iff_eq.mpr c10
  have c10b1 : (a0_1 != (-1)) = false := bne_eq_false_iff_eq.mpr c10
  clear c10
  by_cases c11 : a1 > 0
  rotate_left
  ·rw [if_neg c11] at H
   have c11b0 : decide (0 < a1) = false := decide_eq_false c11
   clear c11
   have H' := Aside0.mk H
   clear H
   obtain ⟨⟨_,_,_,_,_,_,_,_,_,_,_⟩,_,_,_,_,_,_,_,_,_,_,_⟩ := bx11 BK334
   go_wp2_with (first | ((with_reducible refine gate_callee (f := 46) rfl ?_); refine gL (some 9) Try.func46 #[.int .i64 a0_2, .int .i64 1, .int .i64 1000] (r04_inside.calls a0_2 1 1000 true _ A5.out) ?_; rintro e w' ⟨rfl, ⟨nd, rfl⟩⟩; refine ⟨_, rfl, ?_⟩) | (go_at_call 46; (with_reducible refine (r04_inside.calls a0_3 1 1000 true _ A7.out).mono ?_); rintro e w' ⟨rfl, ⟨nd, rfl⟩⟩))
   go_meet
   case rel => exact ⟨_, (false), tQ, H', ⟨tN⟩, ⟨kK BK334⟩, ⟨kB1 HB GE334⟩⟩
  rw [if_pos c11] at H
  have c11b0 : decide (0 < a1) = true := decide_eq_true c11
  clear c11
  obtain ⟨t337, A12, H⟩ := bnd H
  have H' := Aside0.mk H
  clear H
  obtain ⟨⟨_,_,_,_,_,_,_,_,_,_,_⟩,_,_,_,_,_,_,_,_,_,_,_⟩ := bx11 BK334
  go_wp2_with (first | ((with_reducible refine gate_callee (f := 46) rfl ?_); refine gL (some 9) Try.func46 #[.int .i64 a0_2, .int .i64 1, .int .i64 1000] (r04_inside.calls a0_2 1 1000 true _ A5.out) ?_; rintro e w' ⟨rfl, ⟨nd, rfl⟩⟩; refine ⟨_, rfl, ?_⟩) | (go_at_call 46; (with_reducible refine (r04_inside.calls a0_3 1 1000 true _ A7.out).mono ?_); rintro e w' ⟨rfl, ⟨nd, rfl⟩⟩) | (go_at_call 46; (with_reducible refine (r04_inside.calls a0_1 0 (wrap64 (a1 - 1)) t337 _ A12.out).mono ?_); rintro e w' ⟨rfl, ⟨nd, rfl⟩⟩))
  go_meet
  case rel => exact ⟨_, (!t337), tQ, H', ⟨tN⟩, ⟨kK BK334⟩, ⟨kB1 HB GE334⟩⟩
 case rest =>
  clear HC3
  obtain ⟨kq, x37_2, rfl, HA, HJ2, BK334, HB⟩ := hcut
  cases kq with
  | zero => exact absurd HA.out (by simp [r04_conductor.j0])
  | succ kj2 =>
   have H := HA.out
   clear HA
   simp only [r04_conductor.j0] at H
   by_cases c22 : x37_2 = true
   ·subst c22
    replace H := ifT H
    obtain rfl := Option.some.inj H
    go_wp2
    go_ret
    exact ⟨tE, kB1 HB GE334⟩
   replace c22 := Bool.eq_false_iff.mpr c22
   subst c22
   replace H := ifF H
   have HC23 := Aside0.mk H
   clear H
   obtain ⟨⟨_,_,_,_,_,_,_,_,_,_,_⟩,_,_,_,_,_,_,_,_,_,_,_⟩ := bx11 BK334
   go_upto_region 5 with (first | ((with_reducible refine gate_dst (N := 5) rfl ?_); refine bE 5 44 #[.int .i64 0, .int .i64 0] ?_; intro gb339 hg w25 hbox hb; have BK339 := Aside0.mk hbox; have GW339 := gE hg (kB1 HB GE334); have GE339 := gE hg (kB1 HB GE334); replace HB := bS (kB1 HB GE334) hb; have NB334_339 := nL hg BK334; have NB339_334 := nG hg BK334; replace BK334 := bK BK334 hb; clear hb hbox hg; have hnb26 := NB339_334.out; have hnc26 := NB334_339.out; obtain ⟨⟨_,_⟩,_,_⟩ := bx2 BK339; obtain ⟨⟨_,_,_,_,_,_,_,_,_,_,_⟩,_,_,_,_,_,_,_,_,_,_,_⟩ := bx11 BK334) | ((with_reducible refine gate_dst (N := 6) rfl ?_); refine bE 6 46 #[.int .i64 0, .int .i64 0, .int .i64 0, .int .i64 0, .int .i64 0] ?_; intro gb340 hg w29 hbox hb; have BK340 := Aside0.mk hbox; have GW340 := gE hg (kB2 HB GE334 GE339); have GE340 := gE hg (kB2 HB GE334 GE339); replace HB := bS (kB2 HB GE334 GE339) hb; have NB334_340 := Aside0.mk ((by rw [hg]; exact Nat.ne_of_lt (blk_lt (g := gb334) (o := .cells #[.string a0_0, .int .i64 a0_1, .int .i64 a0_2, .int .i64 a0_3, .int .i64 a0_4, .int .i64 a0_5, .int .i64 a0_6, .int .i64 a0_7, .int .i64 a0_8, .int .i64 a0_9, .int .i64 a0_10] 48 (0, 0)) (kN BK334)) : gb334 ≠ gb340)); have NB340_334 := Aside0.mk ((by rw [hg]; exact Nat.ne_of_gt (blk_lt (g := gb334) (o := .cells #[.string a0_0, .int .i64 a0_1, .int .i64 a0_2, .int .i64 a0_3, .int .i64 a0_4, .int .i64 a0_5, .int .i64 a0_6, .int .i64 a0_7, .int .i64 a0_8, .int .i64 a0_9, .int .i64 a0_10] 48 (0, 0)) (kN BK334)) : gb340 ≠ gb334)); replace BK334 := Aside0.mk (blk_below (g := gb334) (o := .cells #[.string a0_0, .int .i64 a0_1, .int .i64 a0_2, .int .i64 a0_3, .int .i64 a0_4, .int .i64 a0_5, .int .i64 a0_6, .int .i64 a0_7, .int .i64 a0_8, .int .i64 a0_9, .int .i64 a0_10] 48 (0, 0)) (kN BK334) hb); have NB339_340 := Aside0.mk ((by rw [hg]; exact Nat.ne_of_lt (blk_lt (g := gb339) (o := .cells #[.int .i64 a0_4, .int .i64 a0_5] 44 (0, 0)) (kN BK339)) : gb339 ≠ gb340)); have NB340_339 := Aside0.mk ((by rw [hg]; exact Nat.ne_of_gt (blk_lt (g := gb339) (o := .cells #[.int .i64 a0_4, .int .i64 a0_5] 44 (0, 0)) (kN BK339)) : gb340 ≠ gb339)); replace BK339 := Aside0.mk (blk_below (g := gb339) (o := .cells #[.int .i64 a0_4, .int .i64 a0_5] 44 (0, 0)) (kN BK339) hb); clear hb hbox hg; have hnb30 := NB340_334.out; have hnc30 := NB334_340.out; have hnb31 := NB340_339.out; have hnc31 := NB339_340.out; obtain ⟨⟨_,_,_,_,_⟩,_,_,_,_,_⟩ := bx5 BK340))
   (try simp only [Act.put, List.setIfInBounds_toArray, List.set_cons_zero, List.set_cons_succ])
   go_cut [56] (fun v56 wc => ∃ (kq : Nat) (x56_22 : Bool), v56 = .bool x56_22 ∧ Aside0 (r04_conductor.j1 kq x56_22 a0_6 a0_7 a0_8 a0_9 a0_10 = some r) ∧ Aside0 (kq ≤ kj2) ∧ Aside0 (wc.heap[gb334]? = some (.cells #[.string a0_0, .int .i64 a0_1, .int .i64 a0_2, .int .i64 a0_3, .int .i64 a0_4, .int .i64 a0_5, .int .i64 a0_6, .int .i64 a0_7, .int .i64 a0_8, .int .i64 a0_9, .int .i64 a0_10] 48 (0, 0))) ∧ Aside0 (wc.heap[gb339]? = some (.cells #[.int .i64 a0_4, .int .i64 a0_5] 44 (0, 0))) ∧ Aside0 (wc.heap[gb340]? = some (.cells #[.int .i64 a0_6, .int .i64 a0_7, .int .i64 a0_8, .int .i64 a0_9, .int .i64 a0_10] 46 (0, 0))) ∧ Aside0 (Below w.heap.size w wc))
   case first =>
    have H := HC23.out
    clear HC23
    by_cases c33 : (!(a0_4 == 0) || (!(a0_5 == 0))) = true
    rotate_left
    ·rw [if_neg c33] at H
     have c33b0 : (!(a0_4 == 0) || (!(a0_5 == 0))) = false := by simpa using c33
     clear c33
     (first | rw [c33b0] | (simp only [i64_w, i32_w]; rw [c33b0]) | skip)
     have H' := Aside0.mk H
     clear H
     have hnb43 := NB339_334.out
     have hnc43 := NB334_339.out
     have hnb44 := NB339_340.out
     have hnc44 := NB340_339.out
     obtain ⟨⟨_,_⟩,_,_⟩ := bx2 BK339
     go_wp2
     go_meet
     case rel => exact ⟨_, (false), tQ, H', ⟨by have := HJ2.out; first | omega | exact Nat.le_refl _⟩, ⟨kN BK334⟩, ⟨kN BK339⟩, ⟨kN BK340⟩, ⟨kB3 HB GE334 GE339 GE340⟩⟩
    rw [if_pos c33] at H
    have c33b0 : (!(a0_4 == 0) || (!(a0_5 == 0))) = true := c33
    clear c33
    (first | rw [c33b0] | (simp only [i64_w, i32_w]; rw [c33b0]) | skip)
    obtain ⟨t341, A34, H⟩ := bnd H
    by_cases c35 : t341 = true
    rotate_left
    ·replace c35 := Bool.eq_false_iff.mpr c35
     subst c35
     replace H := ifF H
     have H' := Aside0.mk H
     clear H
     have hnb40 := NB339_334.out
     have hnc40 := NB334_339.out
     have hnb41 := NB339_340.out
     have hnc41 := NB340_339.out
     obtain ⟨⟨_,_⟩,_,_⟩ := bx2 BK339
     go_wp2_with (first | (go_at_call 46; (with_reducible refine (r04_inside.calls a0_4 1 1000 false _ A34.out).mono ?_); rintro e w' ⟨rfl, ⟨nd, rfl⟩⟩))
     go_meet
     case rel => exact ⟨_, (true), tQ, H', ⟨by have := HJ2.out; first | omega | exact Nat.le_refl _⟩, ⟨kN BK334⟩, ⟨kN BK339⟩, ⟨kN BK340⟩, ⟨kB3 HB GE334 GE339 GE340⟩⟩
    subst c35
    replace H := ifT H
    obtain ⟨t342, A36, H⟩ := bnd H
    have H' := Aside0.mk H
    clear H
    have hnb37 := NB339_334.out
    have hnc37 := NB334_339.out
    have hnb38 := NB339_340.out
    have hnc38 := NB340_339.out
    obtain ⟨⟨_,_⟩,_,_⟩ := bx2 BK339
    go_wp2_with (first | (go_at_call 46; (with_reducible refine (r04_inside.calls a0_4 1 1000 true _ A34.out).mono ?_); rintro e w' ⟨rfl, ⟨nd, rfl⟩⟩) | (go_at_call 46; (with_reducible refine (r04_inside.calls a0_5 0 1000000 t342 _ A36.out).mono ?_); rintro e w' ⟨rfl, ⟨nd, rfl⟩⟩))
    go_meet
    case rel => exact ⟨_, (!t342), tQ, H', ⟨by have := HJ2.out; first | omega | exact Nat.le_refl _⟩, ⟨kN BK334⟩, ⟨kN BK339⟩, ⟨kN BK340⟩, ⟨kB3 HB GE334 GE339 GE340⟩⟩
   case rest =>
    clear HC23
    obtain ⟨kq, x56_22, rfl, HA, HJ22, BK334, BK339, BK340, HB⟩ := hcut
    cases kq with
    | zero => exact absurd HA.out (by simp [r04_conductor.j1])
    | succ kj22 =>
     have H := HA.out
     clear HA
     simp only [r04_conductor.j1] at H
     by_cases c46 : x56_22 = true
     ·subst c46
      replace H := ifT H
      obtain rfl := Option.some.inj H
      go_wp2
      go_ret
      exact ⟨tE, kB3 HB GE334 GE339 GE340⟩
     replace c46 := Bool.eq_false_iff.mpr c46
     subst c46
     replace H := ifF H
     have HC47 := Aside0.mk H
     clear H
     go_upto_region 7 with (fail)
     go_cut [4] (fun v4 wc => ∃ (kq : Nat) (x4_46 : Bool), v4 = .bool x4_46 ∧ Aside0 (r04_conductor.j2 kq x4_46 = some r) ∧ Aside0 (kq ≤ kj22) ∧ Aside0 (wc.heap[gb334]? = some (.cells #[.string a0_0, .int .i64 a0_1, .int .i64 a0_2, .int .i64 a0_3, .int .i64 a0_4, .int .i64 a0_5, .int .i64 a0_6, .int .i64 a0_7, .int .i64 a0_8, .int .i64 a0_9, .int .i64 a0_10] 48 (0, 0))) ∧ Aside0 (wc.heap[gb339]? = some (.cells #[.int .i64 a0_4, .int .i64 a0_5] 44 (0, 0))) ∧ Aside0 (wc.heap[gb340]? = some (.cells #[.int .i64 a0_6, .int .i64 a0_7, .int .i64 a0_8, .int .i64 a0_9, .int .i64 a0_10] 46 (0, 0))) ∧ Aside0 (Below w.heap.size w wc))
     case first =>
      have H := HC47.out
      clear HC47
      by_cases c48 : (a0_6 == 0 && (a0_7 == 0 && (a0_8 == 0 && (a0_9 == 0 && (a0_10 == 0))))) = true
      ·rw [if_pos c48] at H
       have c48b0 : (a0_6 == 0 && (a0_7 == 0 && (a0_8 == 0 && (a0_9 == 0 && (a0_10 == 0))))) = true := c48
       (try (have c48b1 : decide (a0_6 = 0 && (a0_7 == 0 && (a0_8 == 0 && (a0_9 == 0 && (a0_10 == 0))))) = true := by simpa using c48))
       (try (have c48b2 : (a0_6 == 0 && (a0_7 == 0 && (a0_8 == 0 && (a0_9 == 0 && (a0_10 == 0))))) = true := by simpa using c48))
       clear c48
       (first | rw [c48b0] | (simp only [i64_w, i32_w]; rw [c48b0]) | skip)
       have H' := Aside0.mk H
       clear H
       have hnb49 := NB340_334.out
       have hnc49 := NB334_340.out
       have hnb50 := NB340_339.out
       have hnc50 := NB339_340.out
       obtain ⟨⟨_,_,_,_,_⟩,_,_,_,_,_⟩ := bx5 BK340
       go_wp2
       go_meet
       case rel => exact ⟨_, (true), tQ, H', ⟨by have := HJ2.out; have := HJ22.out; first | omega | exact Nat.le_refl _⟩, ⟨kK BK334⟩, ⟨kK BK339⟩, ⟨kK BK340⟩, ⟨kB3 HB GE334 GE339 GE340⟩⟩
      rw [if_neg c48] at H
      have c48b0 : (a0_6 == 0 && (a0_7 == 0 && (a0_8 == 0 && (a0_9 == 0 && (a0_10 == 0))))) = false := by simpa using c48
      (try (have c48b1 : decide (a0_6 = 0 && (a0_7 == 0 && (a0_8 == 0 && (a0_9 == 0 && (a0_10 == 0))))) = false := by simpa using c48))
      (try (have c48b2 : (a0_6 == 0 && (a0_7 == 0 && (a0_8 == 0 && (a0_9 == 0 && (a0_10 == 0))))) = false := by simpa using c48))
      (try (have c48b3 : ¬ (a0_6 = 0 && (a0_7 == 0 && (a0_8 == 0 && (a0_9 == 0 && (a0_10 == 0))))) := by simpa using c48))
      clear c48
      (first | rw [c48b0] | (simp only [i64_w, i32_w]; rw [c48b0]) | skip)
      obtain ⟨t343, A52, H⟩ := bnd H
      by_cases c53 : t343 = true
      rotate_left
      ·replace c53 := Bool.eq_false_iff.mpr c53
       subst c53
       replace H := ifF H
       have H' := Aside0.mk H
       clear H
       have hnb73 := NB340_334.out
       have hnc73 := NB334_340.out
       have hnb74 := NB340_339.out
       have hnc74 := NB339_340.out
       obtain ⟨⟨_,_,_,_,_⟩,_,_,_,_,_⟩ := bx5 BK340
       go_wp2_with (first | (go_at_call 46; (with_reducible refine (r04_inside.calls a0_6 0 200000 false _ A52.out).mono ?_); rintro e w' ⟨rfl, ⟨nd, rfl⟩⟩))
       go_meet
       case rel => exact ⟨_, (false), tQ, H', ⟨by have := HJ2.out; have := HJ22.out; first | omega | exact Nat.le_refl _⟩, ⟨kK BK334⟩, ⟨kK BK339⟩, ⟨kK BK340⟩, ⟨kB3 HB GE334 GE339 GE340⟩⟩
      subst c53
      replace H := ifT H
      obtain ⟨t344, A54, H⟩ := bnd H
      by_cases c55 : t344 = true
      rotate_left
      ·replace c55 := Bool.eq_false_iff.mpr c55
       subst c55
       replace H := ifF H
       have H' := Aside0.mk H
       clear H
       have hnb70 := NB340_334.out
       have hnc70 := NB334_340.out
       have hnb71 := NB340_339.out
       have hnc71 := NB339_340.out
       obtain ⟨⟨_,_,_,_,_⟩,_,_,_,_,_⟩ := bx5 BK340
       go_wp2_with (first | (go_at_call 46; (with_reducible refine (r04_inside.calls a0_6 0 200000 true _ A52.out).mono ?_); rintro e w' ⟨rfl, ⟨nd, rfl⟩⟩) | (go_at_call 46; (with_reducible refine (r04_inside.calls a0_7 (wrap64 (a0_6 + 1)) 200000 false _ A54.out).mono ?_); rintro e w' ⟨rfl, ⟨nd, rfl⟩⟩))
       go_meet
       case rel => exact ⟨_, (false), tQ, H', ⟨by have := HJ2.out; have := HJ22.out; first | omega | exact Nat.le_refl _⟩, ⟨kK BK334⟩, ⟨kK BK339⟩, ⟨kK BK340⟩, ⟨kB3 HB GE334 GE339 GE340⟩⟩
      subst c55
      replace H := ifT H
      obtain ⟨t345, A56, H⟩ := bnd H
      by_cases c57 : t345 = true
      rotate_left
      ·replace c57 := Bool.eq_false_iff.mpr c57
       subst c57
       replace H := ifF H
       have H' := Aside0.mk H
       clear H
       have hnb67 := NB340_334.out
       have hnc67 := NB334_340.out
       have hnb68 := NB340_339.out
       have hnc68 := NB339_340.out
       obtain ⟨⟨_,_,_,_,_⟩,_,_,_,_,_⟩ := bx5 BK340
       go_wp2_with (first | (go_at_call 46; (with_reducible refine (r04_inside.calls a0_6 0 200000 true _ A52.out).mono ?_); rintro e w' ⟨rfl, ⟨nd, rfl⟩⟩) | (go_at_call 46; (with_reducible refine (r04_inside.calls a0_7 (wrap64 (a0_6 + 1)) 200000 true _ A54.out).mono ?_); rintro e w' ⟨rfl, ⟨nd, rfl⟩⟩) | (go_at_call 46; (with_reducible refine (r04_inside.calls a0_8 0 1000 false _ A56.out).mono ?_); rintro e w' ⟨rfl, ⟨nd, rfl⟩⟩))
       go_meet
       case rel => exact ⟨_, (false), tQ, H', ⟨by have := HJ2.out; have := HJ22.out; first | omega | exact Nat.le_refl _⟩, ⟨kK BK334⟩, ⟨kK BK339⟩, ⟨kK BK340⟩, ⟨kB3 HB GE334 GE339 GE340⟩⟩
      subst c57
      replace H := ifT H
      obtain ⟨t346, A58, H⟩ := bnd H
      by_cases c59 : t346 = true
      rotate_left
      ·replace c59 := Bool.eq_false_iff.mpr c59
       subst c59
       replace H := ifF H
       have H' := Aside0.mk H
       clear H
       have hnb64 := NB340_334.out
       have hnc64 := NB334_340.out
       have hnb65 := NB340_339.out
       have hnc65 := NB339_340.out
       obtain ⟨⟨_,_,_,_,_⟩,_,_,_,_,_⟩ := bx5 BK340
       go_wp2_with (first | (go_at_call 46; (with_reducible refine (r04_inside.calls a0_6 0 200000 true _ A52.out).mono ?_); rintro e w' ⟨rfl, ⟨nd, rfl⟩⟩) | (go_at_call 46; (with_reducible refine (r04_inside.calls a0_7 (wrap64 (a0_6 + 1)) 200000 true _ A54.out).mono ?_); rintro e w' ⟨rfl, ⟨nd, rfl⟩⟩) | (go_at_call 46; (with_reducible refine (r04_inside.calls a0_8 0 1000 true _ A56.out).mono ?_); rintro e w' ⟨rfl, ⟨nd, rfl⟩⟩) | (go_at_call 46; (with_reducible refine (r04_inside.calls a0_9 0 1000 false _ A58.out).mono ?_); rintro e w' ⟨rfl, ⟨nd, rfl⟩⟩))
       go_meet
       case rel => exact ⟨_, (false), tQ, H', ⟨by have := HJ2.out; have := HJ22.out; first | omega | exact Nat.le_refl _⟩, ⟨kK BK334⟩, ⟨kK BK339⟩, ⟨kK BK340⟩, ⟨kB3 HB GE334 GE339 GE340⟩⟩
      subst c59
      replace H := ifT H
      obtain ⟨t347, A60, H⟩ := bnd H
      have H' := Aside0.mk H
      clear H
      have hnb61 := NB340_334.out
      have hnc61 := NB334_340.out
      have hnb62 := NB340_339.out
      have hnc62 := NB339_340.out
      obtain ⟨⟨_,_,_,_,_⟩,_,_,_,_,_⟩ := bx5 BK340
      go_wp2_with (first | (go_at_call 46; (with_reducible refine (r04_inside.calls a0_6 0 200000 true _ A52.out).mono ?_); rintro e w' ⟨rfl, ⟨nd, rfl⟩⟩) | (go_at_call 46; (with_reducible refine (r04_inside.calls a0_7 (wrap64 (a0_6 + 1)) 200000 true _ A54.out).mono ?_); rintro e w' ⟨rfl, ⟨nd, rfl⟩⟩) | (go_at_call 46; (with_reducible refine (r04_inside.calls a0_8 0 1000 true _ A56.out).mono ?_); rintro e w' ⟨rfl, ⟨nd, rfl⟩⟩) | (go_at_call 46; (with_reducible refine (r04_inside.calls a0_9 0 1000 true _ A58.out).mono ?_); rintro e w' ⟨rfl, ⟨nd, rfl⟩⟩) | (go_at_call 46; (with_reducible refine (r04_inside.calls a0_10 1 1000000 t347 _ A60.out).mono ?_); rintro e w' ⟨rfl, ⟨nd, rfl⟩⟩))
      go_meet
      case rel => exact ⟨_, (t347), tQ, H', ⟨by have := HJ2.out; have := HJ22.out; first | omega | exact Nat.le_refl _⟩, ⟨kK BK334⟩, ⟨kK BK339⟩, ⟨kK BK340⟩, ⟨kB3 HB GE334 GE339 GE340⟩⟩
     case rest =>
      clear HC47
      obtain ⟨kq, x4_46, rfl, HA, HJ46, BK334, BK339, BK340, HB⟩ := hcut
      cases kq with
      | zero => exact absurd HA.out (by simp [r04_conductor.j2])
      | succ kj46 =>
       have H := HA.out
       clear HA
       simp only [r04_conductor.j2] at H
       obtain rfl := Option.some.inj H
       go_wp2
       go_ret
       exact ⟨tE, kB3 HB GE334 GE339 GE340⟩
end Go.Proofs.Ytpdmnineampimaa.Q
