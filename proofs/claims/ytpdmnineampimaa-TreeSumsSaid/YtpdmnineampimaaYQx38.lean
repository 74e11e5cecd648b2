import Derived.Test.YtpdmnineampimaaYe
import Derived.Test.YtpdmnineampimaaYQx32
set_option linter.unusedVariables false
set_option linter.unusedSimpArgs false
namespace Go.Proofs.Ytpdmnineampimaa.Q
open Go.RowKit Go.Proofs.YtpdmnineampimaaW.PrintWords Go.Proofs.YtpdmnineampimaaW.PrintLast Go.Proofs.YtpdmnineampimaaW.PrintMore
attribute [local go_sem] max2_int min2_int max_two min_two max_three min_three max_four min_four
attribute [local go_sem high] eqA44 eqA46
mutual
def r04_conductor.j0 : Nat → Bool → ByteArray → Int → Int → Int → Int → Int → Int → Int → Int → Int → Int → Option (Bool)
  | 0, _, _, _, _, _, _, _, _, _, _, _, _ => none
  | k + 1, x37, x335000, x335001, x335002, x335003, x335004, x335005, x335006, x335007, x335008, x335009, x335010 => if x37 = true then (some false) else (if (!(x335004 == 0) || (!(x335005 == 0))) = true then ((r04_inside.f x335004 1 1000).bind fun t341 => (if t341 = true then ((r04_inside.f x335005 0 1000000).bind fun t342 => (r04_conductor.j1 k (!t342) x335006 x335007 x335008 x335009 x335010)) else (r04_conductor.j1 k true x335006 x335007 x335008 x335009 x335010))) else (r04_conductor.j1 k false x335006 x335007 x335008 x335009 x335010))
def r04_conductor.j1 : Nat → Bool → Int → Int → Int → Int → Int → Option (Bool)
  | 0, _, _, _, _, _, _ => none
  | k + 1, x56, x341000, x341001, x341002, x341003, x341004 => if x56 = true then (some false) else (if (x341000 == 0 && (x341001 == 0 && (x341002 == 0 && (x341003 == 0 && (x341004 == 0))))) = true then (r04_conductor.j2 k true) else ((r04_inside.f x341000 0 200000).bind fun t343 => (if t343 = true then ((r04_inside.f x341001 (wrap64 (x341000 + 1)) 200000).bind fun t344 => (if t344 = true then ((r04_inside.f x341002 0 1000).bind fun t345 => (if t345 = true then ((r04_inside.f x341003 0 1000).bind fun t346 => (if t346 = true then ((r04_inside.f x341004 1 1000000).bind fun t347 => (r04_conductor.j2 k t347)) else (r04_conductor.j2 k false))) else (r04_conductor.j2 k false))) else (r04_conductor.j2 k false))) else (r04_conductor.j2 k false))))
def r04_conductor.j2 : Nat → Bool → Option (Bool)
  | 0, _ => none
  | k + 1, x4 => some x4
end
def r04_conductor.f (k : Nat) (a0_0 : ByteArray) (a0_1 : Int) (a0_2 : Int) (a0_3 : Int) (a0_4 : Int) (a0_5 : Int) (a0_6 : Int) (a0_7 : Int) (a0_8 : Int) (a0_9 : Int) (a0_10 : Int) (a1 : Int) : Option (Bool) := (r04_inside.f a0_2 1 1000).bind fun t335 => (if t335 = true then ((r04_inside.f a0_3 1 1000).bind fun t336 => (if t336 = true then (if a1 = 0 then (if a0_1 = (-1) then (if a1 > 0 then ((r04_inside.f a0_1 0 (wrap64 (a1 - 1))).bind fun t337 => (r04_conductor.j0 k (!t337) a0_0 a0_1 a0_2 a0_3 a0_4 a0_5 a0_6 a0_7 a0_8 a0_9 a0_10)) else (r04_conductor.j0 k false a0_0 a0_1 a0_2 a0_3 a0_4 a0_5 a0_6 a0_7 a0_8 a0_9 a0_10)) else (r04_conductor.j0 k true a0_0 a0_1 a0_2 a0_3 a0_4 a0_5 a0_6 a0_7 a0_8 a0_9 a0_10)) else (if a1 > 0 then ((r04_inside.f a0_1 0 (wrap64 (a1 - 1))).bind fun t338 => (r04_conductor.j0 k (!t338) a0_0 a0_1 a0_2 a0_3 a0_4 a0_5 a0_6 a0_7 a0_8 a0_9 a0_10)) else (r04_conductor.j0 k false a0_0 a0_1 a0_2 a0_3 a0_4 a0_5 a0_6 a0_7 a0_8 a0_9 a0_10))) else (r04_conductor.j0 k true a0_0 a0_1 a0_2 a0_3 a0_4 a0_5 a0_6 a0_7 a0_8 a0_9 a0_10))) else (r04_conductor.j0 k true a0_0 a0_1 a0_2 a0_3 a0_4 a0_5 a0_6 a0_7 a0_8 a0_9 a0_10))
theorem r04_conductor.mono_l : ∀ k, (∀ y0 y1 y2 y3 y4 y5 y6 y7 y8 y9 y10 y11, LeO (r04_conductor.j0 k y0 y1 y2 y3 y4 y5 y6 y7 y8 y9 y10 y11) (r04_conductor.j0 (k + 1) y0 y1 y2 y3 y4 y5 y6 y7 y8 y9 y10 y11)) ∧ (∀ y0 y1 y2 y3 y4 y5, LeO (r04_conductor.j1 k y0 y1 y2 y3 y4 y5) (r04_conductor.j1 (k + 1) y0 y1 y2 y3 y4 y5)) ∧ (∀ y0, LeO (r04_conductor.j2 k y0) (r04_conductor.j2 (k + 1) y0))
  | 0 => ⟨fun _ _ _ _ _ _ _ _ _ _ _ _ r h => by simp [r04_conductor.j0] at h, fun _ _ _ _ _ _ r h => by simp [r04_conductor.j1] at h, fun _ r h => by simp [r04_conductor.j2] at h⟩
  | k + 1 => by
    obtain ⟨ih0, ih1, ih2⟩ := r04_conductor.mono_l k
    refine ⟨?_, ?_, ?_⟩
    · intro y0 y1 y2 y3 y4 y5 y6 y7 y8 y9 y10 y11
      unfold r04_conductor.j0
      repeat' first
      | (with_reducible exact ih0 _ _ _ _ _ _ _ _ _ _ _ _)
      | (with_reducible exact ih1 _ _ _ _ _ _)
      | (with_reducible exact ih2 _)
      | (with_reducible exact LeO.refl _)
      | (with_reducible exact LeO.none _)
      | (with_reducible refine LeO.ite ?_ ?_)
      | (with_reducible refine LeO.bind ?_ (fun _ => ?_))
      | exact ih0 _ _ _ _ _ _ _ _ _ _ _ _
      | exact ih1 _ _ _ _ _ _
      | exact ih2 _
      | exact LeO.none _
      | refine LeO.ite ?_ ?_
      | refine LeO.bind ?_ (fun _ => ?_)
    · intro y0 y1 y2 y3 y4 y5
      unfold r04_conductor.j1
      repeat' first
      | (with_reducible exact ih0 _ _ _ _ _ _ _ _ _ _ _ _)
      | (with_reducible exact ih1 _ _ _ _ _ _)
      | (with_reducible exact ih2 _)
      | (with_reducible exact LeO.refl _)
      | (with_reducible exact LeO.none _)
      | (with_reducible refine LeO.ite ?_ ?_)
      | (with_reducible refine LeO.bind ?_ (fun _ => ?_))
      | exact ih0 _ _ _ _ _ _ _ _ _ _ _ _
      | exact ih1 _ _ _ _ _ _
      | exact ih2 _
      | exact LeO.none _
      | refine LeO.ite ?_ ?_
      | refine LeO.bind ?_ (fun _ => ?_)
    · intro y0
      unfold r04_conductor.j2
      repeat' first
      | (with_reducible exact ih0 _ _ _ _ _ _ _ _ _ _ _ _)
      | (with_reducible exact ih1 _ _ _ _ _ _)
      | (with_reducible exact ih2 _)
      | (with_reducible exact LeO.refl _)
      | (with_reducible exact LeO.none _)
      | (with_reducible refine LeO.ite ?_ ?_)
      | (with_reducible refine LeO.bind ?_ (fun _ => ?_))
      | exact ih0 _ _ _ _ _ _ _ _ _ _ _ _
      | exact ih1 _ _ _ _ _ _
      | exact ih2 _
      | exact LeO.none _
      | refine LeO.ite ?_ ?_
      | refine LeO.bind ?_ (fun _ => ?_)
theorem r04_conductor.mono : ∀ a0 a1 a2 a3 a4 a5 a6 a7 a8 a9 a10 a11 k, LeO (r04_conductor.f k a0 a1 a2 a3 a4 a5 a6 a7 a8 a9 a10 a11) (r04_conductor.f (k + 1) a0 a1 a2 a3 a4 a5 a6 a7 a8 a9 a10 a11) := by
  intro a0 a1 a2 a3 a4 a5 a6 a7 a8 a9 a10 a11 k
  obtain ⟨ih0, ih1, ih2⟩ := r04_conductor.mono_l k
  unfold r04_conductor.f
  repeat' first
      | (with_reducible exact ih0 _ _ _ _ _ _ _ _ _ _ _ _)
      | (with_reducible exact ih1 _ _ _ _ _ _)
      | (with_reducible exact ih2 _)
      | (with_reducible exact LeO.refl _)
      | (with_reducible exact LeO.none _)
      | (with_reducible refine LeO.ite ?_ ?_)
      | (with_reducible refine LeO.bind ?_ (fun _ => ?_))
      | exact ih0 _ _ _ _ _ _ _ _ _ _ _ _
      | exact ih1 _ _ _ _ _ _
      | exact ih2 _
      | exact LeO.none _
      | refine LeO.ite ?_ ?_
      | refine LeO.bind ?_ (fun _ => ?_)
set_option maxHeartbeats 8000000 in
set_option maxRecDepth 100000 in
theorem r04_conductor.calls (k : Nat) (a0_0 : ByteArray) (a0_1 : Int) (a0_2 : Int) (a0_3 : Int) (a0_4 : Int) (a0_5 : Int) (a0_6 : Int) (a0_7 : Int) (a0_8 : Int) (a0_9 : Int) (a0_10 : Int) (a1 : Int) (r : Bool) (w : World) (h : r04_conductor.f k a0_0 a0_1 a0_2 a0_3 a0_4 a0_5 a0_6 a0_7 a0_8 a0_9 a0_10 a1 = some r) :
    Calls Try.prog 48 #[.agg #[.string a0_0, .int .i64 a0_1, .int .i64 a0_2, .int .i64 a0_3, .int .i64 a0_4, .int .i64 a0_5, .int .i64 a0_6, .int .i64 a0_7, .int .i64 a0_8, .int .i64 a0_9, .int .i64 a0_10], .int .i64 a1] w fun e w' => e = .returned (.bool r) ∧ Below w.heap.size w w' := by
 have hu48 := Try.underlying48
 have hu44 := Try.underlying44
 have hu46 := Try.underlying46
 have HB := Aside0.mk (Below.refl w.heap.size w)
 have H : ((r04_inside.f a0_2 1 1000).bind fun t335 => (if t335 = true then ((r04_inside.f a0_3 1 1000).bind fun t336 => (if t336 = true then (if a1 = 0 then (if a0_1 = (-1) then (if a1 > 0 then ((r04_inside.f a0_1 0 (wrap64 (a1 - 1))).bind fun t337 => (r04_conductor.j0 k (!t337) a0_0 a0_1 a0_2 a0_3 a0_4 a0_5 a0_6 a0_7 a0_8 a0_9 a0_10)) else (r04_conductor.j0 k false a0_0 a0_1 a0_2 a0_3 a0_4 a0_5 a0_6 a0_7 a0_8 a0_9 a0_10)) else (r04_conductor.j0 k true a0_0 a0_1 a0_2 a0_3 a0_4 a0_5 a0_6 a0_7 a0_8 a0_9 a0_10)) else (if a1 > 0 then ((r04_inside.f a0_1 0 (wrap64 (a1 - 1))).bind fun t338 => (r04_conductor.j0 k (!t338) a0_0 a0_1 a0_2 a0_3 a0_4 a0_5 a0_6 a0_7 a0_8 a0_9 a0_10)) else (r04_conductor.j0 k false a0_0 a0_1 a0_2 a0_3 a0_4 a0_5 a0_6 a0_7 a0_8 a0_9 a0_10))) else (r04_conductor.j0 k true a0_0 a0_1 a0_2 a0_3 a0_4 a0_5 a0_6 a0_7 a0_8 a0_9 a0_10))) else (r04_conductor.j0 k true a0_0 a0_1 a0_2 a0_3 a0_4 a0_5 a0_6 a0_7 a0_8 a0_9 a0_10))) = some r := h
 clear h
 have HC3 := Aside0.mk H
 clear H
 go_enter Try.func48, Try.ntmps48
 go_upto_region 1 with (first | ((with_reducible refine gate_dst (N := 2) rfl ?_); refine box_event ?hg (N := 2) ?hd (cs := #[.string a0_0, .int .i64 a0_1, .int .i64 a0_2, .int .i64 a0_3, .int .i64 a0_4, .int .i64 a0_5, .int .i64 a0_6, .int .i64 a0_7, .int .i64 a0_8, .int .i64 a0_9, .int .i64 a0_10]) (t := 48) ?hr ?_; (case hd => rfl); (case hg => rfl); (case hr => first | (go_simp; done) | (go_simp; rfl)); intro gb334 hg w4 hbox hb; have n0_ := Aside0.mk (below_step (kB HB) hb); have n1_ := Aside0.mk (hbox); have n2_ := Aside0.mk ((by rw [hg]; exact (below_size (kB HB)) : w.heap.size ≤ gb334)); have n3_ := Aside0.mk ((by rw [hg]; exact (below_size (kB HB)) : w.heap.size ≤ gb334)); clear HB; have HB := n0_; have BK334 := n1_; have GW334 := n2_; have GE334 := n3_; clear n0_ n1_ n2_ n3_; clear hb hbox hg))
 (try simp only [Act.put, List.setIfInBounds_toArray, List.set_cons_zero, List.set_cons_succ])
 go_cut [37] (fun v37 wc => ∃ (kq : Nat) (x37_2 : Bool), v37 = .bool x37_2 ∧ Aside0 (r04_conductor.j0 kq x37_2 a0_0 a0_1 a0_2 a0_3 a0_4 a0_5 a0_6 a0_7 a0_8 a0_9 a0_10 = some r) ∧ Aside0 (kq ≤ k) ∧ Aside0 (wc.heap[gb334]? = some (.cells #[.string a0_0, .int .i64 a0_1, .int .i64 a0_2, .int .i64 a0_3, .int .i64 a0_4, .int .i64 a0_5, .int .i64 a0_6, .int .i64 a0_7, .int .i64 a0_8, .int .i64 a0_9, .int .i64 a0_10] 48 (0, 0))) ∧ Aside0 (Below w.heap.size w wc))
 case first =>
  have H := HC3.out
  clear HC3
  replace H := Option.bind_eq_some_iff.mp H
  obtain ⟨t335, A50, H⟩ := H
  replace H : (if t335 = true then ((r04_inside.f a0_3 1 1000).bind fun t336 => (if t336 = true then (if a1 = 0 then (if a0_1 = (-1) then (if a1 > 0 then ((r04_inside.f a0_1 0 (wrap64 (a1 - 1))).bind fun t337 => (r04_conductor.j0 k (!t337) a0_0 a0_1 a0_2 a0_3 a0_4 a0_5 a0_6 a0_7 a0_8 a0_9 a0_10)) else (r04_conductor.j0 k false a0_0 a0_1 a0_2 a0_3 a0_4 a0_5 a0_6 a0_7 a0_8 a0_9 a0_10)) else (r04_conductor.j0 k true a0_0 a0_1 a0_2 a0_3 a0_4 a0_5 a0_6 a0_7 a0_8 a0_9 a0_10)) else (if a1 > 0 then ((r04_inside.f a0_1 0 (wrap64 (a1 - 1))).bind fun t338 => (r04_conductor.j0 k (!t338) a0_0 a0_1 a0_2 a0_3 a0_4 a0_5 a0_6 a0_7 a0_8 a0_9 a0_10)) else (r04_conductor.j0 k false a0_0 a0_1 a0_2 a0_3 a0_4 a0_5 a0_6 a0_7 a0_8 a0_9 a0_10))) else (r04_conductor.j0 k true a0_0 a0_1 a0_2 a0_3 a0_4 a0_5 a0_6 a0_7 a0_8 a0_9 a0_10))) else (r04_conductor.j0 k true a0_0 a0_1 a0_2 a0_3 a0_4 a0_5 a0_6 a0_7 a0_8 a0_9 a0_10)) = some r := H
  have A5 := Aside0.mk A50
  clear A50
  by_cases c6 : t335 = true
  rotate_left
  ·replace c6 := Bool.eq_false_iff.mpr c6
   subst c6
   have H1 : (r04_conductor.j0 k true a0_0 a0_1 a0_2 a0_3 a0_4 a0_5 a0_6 a0_7 a0_8 a0_9 a0_10) = some r := by rw [if_neg (show ¬ (false = true) by decide)] at H; exact H
   clear H
   have H := H1
   clear H1
   have H' := Aside0.mk H
   clear H
   obtain ⟨⟨hcz21_0, hcz21_1, hcz21_2, hcz21_3, hcz21_4, hcz21_5, hcz21_6, hcz21_7, hcz21_8, hcz21_9, hcz21_10⟩, hfz21_0, hfz21_1, hfz21_2, hfz21_3, hfz21_4, hfz21_5, hfz21_6, hfz21_7, hfz21_8, hfz21_9, hfz21_10⟩ := bx11 BK334
   go_wp2_with (first | ((with_reducible refine gate_callee (f := 46) rfl ?_); refine goesL_ (some 9) rfl rfl Try.func46 (by kernel_rfl) rfl #[.int .i64 a0_2, .int .i64 1, .int .i64 1000] rfl tL ?_; (with_reducible refine (r04_inside.calls a0_2 1 1000 false _ A5.out).mono ?_); rintro e w' ⟨rfl, ⟨nd, rfl⟩⟩; refine ⟨_, rfl, ?_⟩))
   go_meet
   case rel => exact ⟨_, (true), tQ, H', ⟨by first | omega | exact Nat.le_refl _⟩, ⟨kK BK334⟩, ⟨kB1 HB GE334⟩⟩
  subst c6
  have H1 : ((r04_inside.f a0_3 1 1000).bind fun t336 => (if t336 = true then (if a1 = 0 then (if a0_1 = (-1) then (if a1 > 0 then ((r04_inside.f a0_1 0 (wrap64 (a1 - 1))).bind fun t337 => (r04_conductor.j0 k (!t337) a0_0 a0_1 a0_2 a0_3 a0_4 a0_5 a0_6 a0_7 a0_8 a0_9 a0_10)) else (r04_conductor.j0 k false a0_0 a0_1 a0_2 a0_3 a0_4 a0_5 a0_6 a0_7 a0_8 a0_9 a0_10)) else (r04_conductor.j0 k true a0_0 a0_1 a0_2 a0_3 a0_4 a0_5 a0_6 a0_7 a0_8 a0_9 a0_10)) else (if a1 > 0 then ((r04_inside.f a0_1 0 (wrap64 (a1 - 1))).bind fun t338 => (r04_conductor.j0 k (!t338) a0_0 a0_1 a0_2 a0_3 a0_4 a0_5 a0_6 a0_7 a0_8 a0_9 a0_10)) else (r04_conductor.j0 k false a0_0 a0_1 a0_2 a0_3 a0_4 a0_5 a0_6 a0_7 a0_8 a0_9 a0_10))) else (r04_conductor.j0 k true a0_0 a0_1 a0_2 a0_3 a0_4 a0_5 a0_6 a0_7 a0_8 a0_9 a0_10))) = some r := by rw [if_pos rfl] at H; exact H
  clear H
  have H := H1
  clear H1
  replace H := Option.bind_eq_some_iff.mp H
  obtain ⟨t336, A70, H⟩ := H
  replace H : (if t336 = true then (if a1 = 0 then (if a0_1 = (-1) then (if a1 > 0 then ((r04_inside.f a0_1 0 (wrap64 (a1 - 1))).bind fun t337 => (r04_conductor.j0 k (!t337) a0_0 a0_1 a0_2 a0_3 a0_4 a0_5 a0_6 a0_7 a0_8 a0_9 a0_10)) else (r04_conductor.j0 k false a0_0 a0_1 a0_2 a0_3 a0_4 a0_5 a0_6 a0_7 a0_8 a0_9 a0_10)) else (r04_conductor.j0 k true a0_0 a0_1 a0_2 a0_3 a0_4 a0_5 a0_6 a0_7 a0_8 a0_9 a0_10)) else (if a1 > 0 then ((r04_inside.f a0_1 0 (wrap64 (a1 - 1))).bind fun t338 => (r04_conductor.j0 k (!t338) a0_0 a0_1 a0_2 a0_3 a0_4 a0_5 a0_6 a0_7 a0_8 a0_9 a0_10)) else (r04_conductor.j0 k false a0_0 a0_1 a0_2 a0_3 a0_4 a0_5 a0_6 a0_7 a0_8 a0_9 a0_10))) else (r04_conductor.j0 k true a0_0 a0_1 a0_2 a0_3 a0_4 a0_5 a0_6 a0_7 a0_8 a0_9 a0_10)) = some r := H
  have A7 := Aside0.mk A70
  clear A70
  by_cases c8 : t336 = true
  rotate_left
  ·replace c8 := Bool.eq_false_iff.mpr c8
   subst c8
   have H1 : (r04_conductor.j0 k true a0_0 a0_1 a0_2 a0_3 a0_4 a0_5 a0_6 a0_7 a0_8 a0_9 a0_10) = some r := by rw [if_neg (show ¬ (false = true) by decide)] at H; exact H
   clear H
   have H := H1
   clear H1
   have H' := Aside0.mk H
   clear H
   obtain ⟨⟨hcz20_0, hcz20_1, hcz20_2, hcz20_3, hcz20_4, hcz20_5, hcz20_6, hcz20_7, hcz20_8, hcz20_9, hcz20_10⟩, hfz20_0, hfz20_1, hfz20_2, hfz20_3, hfz20_4, hfz20_5, hfz20_6, hfz20_7, hfz20_8, hfz20_9, hfz20_10⟩ := bx11 BK334
   go_wp2_with (first | ((with_reducible refine gate_callee (f := 46) rfl ?_); refine goesL_ (some 9) rfl rfl Try.func46 (by kernel_rfl) rfl #[.int .i64 a0_2, .int .i64 1, .int .i64 1000] rfl tL ?_; (with_reducible refine (r04_inside.calls a0_2 1 1000 true _ A5.out).mono ?_); rintro e w' ⟨rfl, ⟨nd, rfl⟩⟩; refine ⟨_, rfl, ?_⟩) | (go_at_call 46; (with_reducible refine (r04_inside.calls a0_3 1 1000 false _ A7.out).mono ?_); rintro e w' ⟨rfl, ⟨nd, rfl⟩⟩))
   go_meet
   case rel => exact ⟨_, (true), tQ, H', ⟨by first | omega | exact Nat.le_refl _⟩, ⟨kK BK334⟩, ⟨kB1 HB GE334⟩⟩
  subst c8
  have H1 : (if a1 = 0 then (if a0_1 = (-1) then (if a1 > 0 then ((r04_inside.f a0_1 0 (wrap64 (a1 - 1))).bind fun t337 => (r04_conductor.j0 k (!t337) a0_0 a0_1 a0_2 a0_3 a0_4 a0_5 a0_6 a0_7 a0_8 a0_9 a0_10)) else (r04_conductor.j0 k false a0_0 a0_1 a0_2 a0_3 a0_4 a0_5 a0_6 a0_7 a0_8 a0_9 a0_10)) else (r04_conductor.j0 k true a0_0 a0_1 a0_2 a0_3 a0_4 a0_5 a0_6 a0_7 a0_8 a0_9 a0_10)) else (if a1 > 0 then ((r04_inside.f a0_1 0 (wrap64 (a1 - 1))).bind fun t338 => (r04_conductor.j0 k (!t338) a0_0 a0_1 a0_2 a0_3 a0_4 a0_5 a0_6 a0_7 a0_8 a0_9 a0_10)) else (r04_conductor.j0 k false a0_0 a0_1 a0_2 a0_3 a0_4 a0_5 a0_6 a0_7 a0_8 a0_9 a0_10))) = some r := by rw [if_pos rfl] at H; exact H
  clear H
  have H := H1
  clear H1
  by_cases c9 : a1 = 0
  rotate_left
  ·rw [if_neg c9] at H
   have c9b0 : (a1 == 0) = false := beq_eq_false_iff_ne.mpr c9
   have c9b1 : (a1 != 0) = true := bne_iff_ne.mpr c9
   (first | rw [c9b0] | (simp only [i64_w, i32_w]; rw [c9b0]) | skip)
   by_cases c16 : a1 > 0
   rotate_left
   ·rw [if_neg c16] at H
    have c16b0 : decide (0 < a1) = false := decide_eq_false c16
    clear c16
    have H' := Aside0.mk H
    clear H
    obtain ⟨⟨hcz19_0, hcz19_1, hcz19_2, hcz19_3, hcz19_4, hcz19_5, hcz19_6, hcz19_7, hcz19_8, hcz19_9, hcz19_10⟩, hfz19_0, hfz19_1, hfz19_2, hfz19_3, hfz19_4, hfz19_5, hfz19_6, hfz19_7, hfz19_8, hfz19_9, hfz19_10⟩ := bx11 BK334
    go_wp2_with (first | ((with_reducible refine gate_callee (f := 46) rfl ?_); refine goesL_ (some 9) rfl rfl Try.func46 (by kernel_rfl) rfl #[.int .i64 a0_2, .int .i64 1, .int .i64 1000] rfl tL ?_; (with_reducible refine (r04_inside.calls a0_2 1 1000 true _ A5.out).mono ?_); rintro e w' ⟨rfl, ⟨nd, rfl⟩⟩; refine ⟨_, rfl, ?_⟩) | (go_at_call 46; (with_reducible refine (r04_inside.calls a0_3 1 1000 true _ A7.out).mono ?_); rintro e w' ⟨rfl, ⟨nd, rfl⟩⟩))
    go_meet
    case rel => exact ⟨_, (false), tQ, H', ⟨by first | omega | exact Nat.le_refl _⟩, ⟨kK BK334⟩, ⟨kB1 HB GE334⟩⟩
   rw [if_pos c16] at H
   have c16b0 : decide (0 < a1) = true := decide_eq_true c16
   clear c16
   replace H := Option.bind_eq_some_iff.mp H
   obtain ⟨t338, A170, H⟩ := H
   replace H : (r04_conductor.j0 k (!t338) a0_0 a0_1 a0_2 a0_3 a0_4 a0_5 a0_6 a0_7 a0_8 a0_9 a0_10) = some r := H
   have A17 := Aside0.mk A170
   clear A170
   have H' := Aside0.mk H
   clear H
   obtain ⟨⟨hcz18_0, hcz18_1, hcz18_2, hcz18_3, hcz18_4, hcz18_5, hcz18_6, hcz18_7, hcz18_8, hcz18_9, hcz18_10⟩, hfz18_0, hfz18_1, hfz18_2, hfz18_3, hfz18_4, hfz18_5, hfz18_6, hfz18_7, hfz18_8, hfz18_9, hfz18_10⟩ := bx11 BK334
   go_wp2_with (first | ((with_reducible refine gate_callee (f := 46) rfl ?_); refine goesL_ (some 9) rfl rfl Try.func46 (by kernel_rfl) rfl #[.int .i64 a0_2, .int .i64 1, .int .i64 1000] rfl tL ?_; (with_reducible refine (r04_inside.calls a0_2 1 1000 true _ A5.out).mono ?_); rintro e w' ⟨rfl, ⟨nd, rfl⟩⟩; refine ⟨_, rfl, ?_⟩) | (go_at_call 46; (with_reducible refine (r04_inside.calls a0_3 1 1000 true _ A7.out).mono ?_); rintro e w' ⟨rfl, ⟨nd, rfl⟩⟩) | (go_at_call 46; (with_reducible refine (r04_inside.calls a0_1 0 (wrap64 (a1 - 1)) t338 _ A17.out).mono ?_); rintro e w' ⟨rfl, ⟨nd, rfl⟩⟩))
   go_meet
   case rel => exact ⟨_, (!t338), tQ, H', ⟨by first | omega | exact Nat.le_refl _⟩, ⟨kK BK334⟩, ⟨kB1 HB GE334⟩⟩
  rw [if_pos c9] at H
  have c9b0 : (a1 == 0) = true := beq_iff_eq.mpr c9
  have c9b1 : (a1 != 0) = false := bne_eq_false_iff_eq.mpr c9
  clear c9
  (first | rw [c9b0] | (simp only [i64_w, i32_w]; rw [c9b0]) | skip)
  by_cases c10 : a0_1 = (-1)
  rotate_left
  ·rw [if_neg c10] at H
   have c10b0 : (a0_1 == (-1)) = false := beq_eq_false_iff_ne.mpr c10
   have c10b1 : (a0_1 != (-1)) = true := bne_iff_ne.mpr c10
   have H' := Aside0.mk H
   clear H
   obtain ⟨⟨hcz15_0, hcz15_1, hcz15_2, hcz15_3, hcz15_4, hcz15_5, hcz15_6, hcz15_7, hcz15_8, hcz15_9, hcz15_10⟩, hfz15_0, hfz15_1, hfz15_2, hfz15_3, hfz15_4, hfz15_5, hfz15_6, hfz15_7, hfz15_8, hfz15_9, hfz15_10⟩ := bx11 BK334
   go_wp2_with (first | ((with_reducible refine gate_callee (f := 46) rfl ?_); refine goesL_ (some 9) rfl rfl Try.func46 (by kernel_rfl) rfl #[.int .i64 a0_2, .int .i64 1, .int .i64 1000] rfl tL ?_; (with_reducible refine (r04_inside.calls a0_2 1 1000 true _ A5.out).mono ?_); rintro e w' ⟨rfl, ⟨nd, rfl⟩⟩; refine ⟨_, rfl, ?_⟩) | (go_at_call 46; (with_reducible refine (r04_inside.calls a0_3 1 1000 true _ A7.out).mono ?_); rintro e w' ⟨rfl, ⟨nd, rfl⟩⟩))
   go_meet
   case rel => exact ⟨_, (true), tQ, H', ⟨by first | omega | exact Nat.le_refl _⟩, ⟨kK BK334⟩, ⟨kB1 HB GE334⟩⟩
  rw [if_pos c10] at H
  have c10b0 : (a0_1 == (-1)) = true := beq_iff_eq.mpr c10
  have c10b1 : (a0_1 != (-1)) = false := bne_eq_false_iff_eq.mpr c10
  clear c10
  by_cases c11 : a1 > 0
  rotate_left
  ·rw [if_neg c11] at H
   have c11b0 : decide (0 < a1) = false := decide_eq_false c11
   clear c11
   have H' := Aside0.mk H
   clear H
   obtain ⟨⟨hcz14_0, hcz14_1, hcz14_2, hcz14_3, hcz14_4, hcz14_5, hcz14_6, hcz14_7, hcz14_8, hcz14_9, hcz14_10⟩, hfz14_0, hfz14_1, hfz14_2, hfz14_3, hfz14_4, hfz14_5, hfz14_6, hfz14_7, hfz14_8, hfz14_9, hfz14_10⟩ := bx11 BK334
   go_wp2_with (first | ((with_reducible refine gate_callee (f := 46) rfl ?_); refine goesL_ (some 9) rfl rfl Try.func46 (by kernel_rfl) rfl #[.int .i64 a0_2, .int .i64 1, .int .i64 1000] rfl tL ?_; (with_reducible refine (r04_inside.calls a0_2 1 1000 true _ A5.out).mono ?_); rintro e w' ⟨rfl, ⟨nd, rfl⟩⟩; refine ⟨_, rfl, ?_⟩) | (go_at_call 46; (with_reducible refine (r04_inside.calls a0_3 1 1000 true _ A7.out).mono ?_); rintro e w' ⟨rfl, ⟨nd, rfl⟩⟩))
   go_meet
   case rel => exact ⟨_, (false), tQ, H', ⟨by first | omega | exact Nat.le_refl _⟩, ⟨kK BK334⟩, ⟨kB1 HB GE334⟩⟩
  rw [if_pos c11] at H
  have c11b0 : decide (0 < a1) = true := decide_eq_true c11
  clear c11
  replace H := Option.bind_eq_some_iff.mp H
  obtain ⟨t337, A120, H⟩ := H
  replace H : (r04_conductor.j0 k (!t337) a0_0 a0_1 a0_2 a0_3 a0_4 a0_5 a0_6 a0_7 a0_8 a0_9 a0_10) = some r := H
  have A12 := Aside0.mk A120
  clear A120
  have H' := Aside0.mk H
  clear H
  obtain ⟨⟨hcz13_0, hcz13_1, hcz13_2, hcz13_3, hcz13_4, hcz13_5, hcz13_6, hcz13_7, hcz13_8, hcz13_9, hcz13_10⟩, hfz13_0, hfz13_1, hfz13_2, hfz13_3, hfz13_4, hfz13_5, hfz13_6, hfz13_7, hfz13_8, hfz13_9, hfz13_10⟩ := bx11 BK334
  go_wp2_with (first | ((with_reducible refine gate_callee (f := 46) rfl ?_); refine goesL_ (some 9) rfl rfl Try.func46 (by kernel_rfl) rfl #[.int .i64 a0_2, .int .i64 1, .int .i64 1000] rfl tL ?_; (with_reducible refine (r04_inside.calls a0_2 1 1000 true _ A5.out).mono ?_); rintro e w' ⟨rfl, ⟨nd, rfl⟩⟩; refine ⟨_, rfl, ?_⟩) | (go_at_call 46; (with_reducible refine (r04_inside.calls a0_3 1 1000 true _ A7.out).mono ?_); rintro e w' ⟨rfl, ⟨nd, rfl⟩⟩) | (go_at_call 46; (with_reducible refine (r04_inside.calls a0_1 0 (wrap64 (a1 - 1)) t337 _ A12.out).mono ?_); rintro e w' ⟨rfl, ⟨nd, rfl⟩⟩))
  go_meet
  case rel => exact ⟨_, (!t337), tQ, H', ⟨by first | omega | exact Nat.le_refl _⟩, ⟨kK BK334⟩, ⟨kB1 HB GE334⟩⟩
 case rest =>
  clear HC3
  obtain ⟨kq, x37_2, rfl, HA, HJ2, BK334, HB⟩ := hcut
  cases kq with
  | zero => exact absurd HA.out (by simp [r04_conductor.j0])
  | succ kj2 =>
   have H := HA.out
   clear HA
   simp only [r04_conductor.j0] at H
   by_cases c22 : x37_2 = true
   ·subst c22
    have H1 : (some false) = some r := by rw [if_pos rfl] at H; exact H
    clear H
    have H := H1
    clear H1
    obtain rfl := Option.some.inj H
    go_wp2
    go_ret
    exact ⟨by first | rfl | (simp [errW_none, errW_some] <;> rfl) | (simp [*, errW_none, errW_some] <;> rfl), kB1 HB GE334⟩
   replace c22 := Bool.eq_false_iff.mpr c22
   subst c22
   have H1 : (if (!(a0_4 == 0) || (!(a0_5 == 0))) = true then ((r04_inside.f a0_4 1 1000).bind fun t341 => (if t341 = true then ((r04_inside.f a0_5 0 1000000).bind fun t342 => (r04_conductor.j1 kj2 (!t342) a0_6 a0_7 a0_8 a0_9 a0_10)) else (r04_conductor.j1 kj2 true a0_6 a0_7 a0_8 a0_9 a0_10))) else (r04_conductor.j1 kj2 false a0_6 a0_7 a0_8 a0_9 a0_10)) = some r := by rw [if_neg (show ¬ (false = true) by decide)] at H; exact H
   clear H
   have H := H1
   clear H1
   have HC23 := Aside0.mk H
   clear H
   obtain ⟨⟨hcz24_0, hcz24_1, hcz24_2, hcz24_3, hcz24_4, hcz24_5, hcz24_6, hcz24_7, hcz24_8, hcz24_9, hcz24_10⟩, hfz24_0, hfz24_1, hfz24_2, hfz24_3, hfz24_4, hfz24_5, hfz24_6, hfz24_7, hfz24_8, hfz24_9, hfz24_10⟩ := bx11 BK334
   go_upto_region 5 with (first | ((with_reducible refine gate_dst (N := 5) rfl ?_); refine box_event ?hg (N := 5) ?hd (cs := #[.int .i64 0, .int .i64 0]) (t := 44) ?hr ?_; (case hd => rfl); (case hg => rfl); (case hr => first | (go_simp; done) | (go_simp; rfl)); intro gb339 hg w25 hbox hb; have n0_ := Aside0.mk (blk_below (g := gb334) (o := .cells #[.string a0_0, .int .i64 a0_1, .int .i64 a0_2, .int .i64 a0_3, .int .i64 a0_4, .int .i64 a0_5, .int .i64 a0_6, .int .i64 a0_7, .int .i64 a0_8, .int .i64 a0_9, .int .i64 a0_10] 48 (0, 0)) (kK BK334) hb); have n1_ := Aside0.mk (below_step (kB1 HB GE334) hb); have n2_ := Aside0.mk (hbox); have n3_ := Aside0.mk ((by rw [hg]; exact (below_size (kB1 HB GE334)) : w.heap.size ≤ gb339)); have n4_ := Aside0.mk ((by rw [hg]; exact (below_size (kB1 HB GE334)) : w.heap.size ≤ gb339)); have n5_ := Aside0.mk ((by rw [hg]; exact Nat.ne_of_lt (blk_lt (g := gb334) (o := .cells #[.string a0_0, .int .i64 a0_1, .int .i64 a0_2, .int .i64 a0_3, .int .i64 a0_4, .int .i64 a0_5, .int .i64 a0_6, .int .i64 a0_7, .int .i64 a0_8, .int .i64 a0_9, .int .i64 a0_10] 48 (0, 0)) (kK BK334)) : gb334 ≠ gb339)); have n6_ := Aside0.mk ((by rw [hg]; exact Nat.ne_of_gt (blk_lt (g := gb334) (o := .cells #[.string a0_0, .int .i64 a0_1, .int .i64 a0_2, .int .i64 a0_3, .int .i64 a0_4, .int .i64 a0_5, .int .i64 a0_6, .int .i64 a0_7, .int .i64 a0_8, .int .i64 a0_9, .int .i64 a0_10] 48 (0, 0)) (kK BK334)) : gb339 ≠ gb334)); clear BK334; clear HB; have BK334 := n0_; have HB := n1_; have BK339 := n2_; have GW339 := n3_; have GE339 := n4_; have NB334_339 := n5_; have NB339_334 := n6_; clear n0_ n1_ n2_ n3_ n4_ n5_ n6_; clear hb hbox hg; have hnb26 := NB339_334.out; have hnc26 := NB334_339.out; obtain ⟨⟨hcz27_0, hcz27_1⟩, hfz27_0, hfz27_1⟩ := bx2 BK339; obtain ⟨⟨hcz28_0, hcz28_1, hcz28_2, hcz28_3, hcz28_4, hcz28_5, hcz28_6, hcz28_7, hcz28_8, hcz28_9, hcz28_10⟩, hfz28_0, hfz28_1, hfz28_2, hfz28_3, hfz28_4, hfz28_5, hfz28_6, hfz28_7, hfz28_8, hfz28_9, hfz28_10⟩ := bx11 BK334) | ((with_reducible refine gate_dst (N := 6) rfl ?_); refine box_event ?hg (N := 6) ?hd (cs := #[.int .i64 0, .int .i64 0, .int .i64 0, .int .i64 0, .int .i64 0]) (t := 46) ?hr ?_; (case hd => rfl); (case hg => rfl); (case hr => first | (go_simp; done) | (go_simp; rfl)); intro gb340 hg w29 hbox hb; have n0_ := Aside0.mk (blk_below (g := gb334) (o := .cells #[.string a0_0, .int .i64 a0_1, .int .i64 a0_2, .int .i64 a0_3, .int .i64 a0_4, .int .i64 a0_5, .int .i64 a0_6, .int .i64 a0_7, .int .i64 a0_8, .int .i64 a0_9, .int .i64 a0_10] 48 (0, 0)) (by (with_reducible repeat (first | refine blk_drewN ?_ _ | refine blk_drew ?_ | refine blk_alloc ?_ _)); refine blk_far ?_ NB334_339.out _; (with_reducible repeat (first | refine blk_drewN ?_ _ | refine blk_drew ?_ | refine blk_alloc ?_ _)); refine blk_far ?_ NB334_339.out _; (with_reducible repeat (first | refine blk_drewN ?_ _ | refine blk_drew ?_ | refine blk_alloc ?_ _)); exact BK334.out) hb); have n1_ := Aside0.mk (blk_below (g := gb339) (o := .cells #[.int .i64 a0_4, .int .i64 a0_5] 44 (0, 0)) (by (with_reducible repeat (first | refine blk_drewN ?_ _ | refine blk_drew ?_ | refine blk_alloc ?_ _)); refine blk_put (cs := #[.int .i64 a0_4, .int .i64 0]) ?_ 1 _ rfl; (with_reducible repeat (first | refine blk_drewN ?_ _ | refine blk_drew ?_ | refine blk_alloc ?_ _)); refine blk_put (cs := #[.int .i64 0, .int .i64 0]) ?_ 0 _ rfl; (with_reducible repeat (first | refine blk_drewN ?_ _ | refine blk_drew ?_ | refine blk_alloc ?_ _)); exact BK339.out) hb); have n2_ := Aside0.mk (below_step (kB2 HB GE334 GE339) hb); have n3_ := Aside0.mk (hbox); have n4_ := Aside0.mk ((by rw [hg]; exact (below_size (kB2 HB GE334 GE339)) : w.heap.size ≤ gb340)); have n5_ := Aside0.mk ((by rw [hg]; exact (below_size (kB2 HB GE334 GE339)) : w.heap.size ≤ gb340)); have n6_ := Aside0.mk ((by rw [hg]; exact Nat.ne_of_lt (blk_lt (g := gb334) (o := .cells #[.string a0_0, .int .i64 a0_1, .int .i64 a0_2, .int .i64 a0_3, .int .i64 a0_4, .int .i64 a0_5, .int .i64 a0_6, .int .i64 a0_7, .int .i64 a0_8, .int .i64 a0_9, .int .i64 a0_10] 48 (0, 0)) (by (with_reducible repeat (first | refine blk_drewN ?_ _ | refine blk_drew ?_ | refine blk_alloc ?_ _)); refine blk_far ?_ NB334_339.out _; (with_reducible repeat (first | refine blk_drewN ?_ _ | refine blk_drew ?_ | refine blk_alloc ?_ _)); refine blk_far ?_ NB334_339.out _; (with_reducible repeat (first | refine blk_drewN ?_ _ | refine blk_drew ?_ | refine blk_alloc ?_ _)); exact BK334.out)) : gb334 ≠ gb340)); have n7_ := Aside0.mk ((by rw [hg]; exact Nat.ne_of_gt (blk_lt (g := gb334) (o := .cells #[.string a0_0, .int .i64 a0_1, .int .i64 a0_2, .int .i64 a0_3, .int .i64 a0_4, .int .i64 a0_5, .int .i64 a0_6, .int .i64 a0_7, .int .i64 a0_8, .int .i64 a0_9, .int .i64 a0_10] 48 (0, 0)) (by (with_reducible repeat (first | refine blk_drewN ?_ _ | refine blk_drew ?_ | refine blk_alloc ?_ _)); refine blk_far ?_ NB334_339.out _; (with_reducible repeat (first | refine blk_drewN ?_ _ | refine blk_drew ?_ | refine blk_alloc ?_ _)); refine blk_far ?_ NB334_339.out _; (with_reducible repeat (first | refine blk_drewN ?_ _ | refine blk_drew ?_ | refine blk_alloc ?_ _)); exact BK334.out)) : gb340 ≠ gb334)); have n8_ := Aside0.mk ((by rw [hg]; exact Nat.ne_of_lt (blk_lt (g := gb339) (o := .cells #[.int .i64 a0_4, .int .i64 a0_5] 44 (0, 0)) (by (with_reducible repeat (first | refine blk_drewN ?_ _ | refine blk_drew ?_ | refine blk_alloc ?_ _)); refine blk_put (cs := #[.int .i64 a0_4, .int .i64 0]) ?_ 1 _ rfl; (with_reducible repeat (first | refine blk_drewN ?_ _ | refine blk_drew ?_ | refine blk_alloc ?_ _)); refine blk_put (cs := #[.int .i64 0, .int .i64 0]) ?_ 0 _ rfl; (with_reducible repeat (first | refine blk_drewN ?_ _ | refine blk_drew ?_ | refine blk_alloc ?_ _)); exact BK339.out)) : gb339 ≠ gb340)); have n9_ := Aside0.mk ((by rw [hg]; exact Nat.ne_of_gt (blk_lt (g := gb339) (o := .cells #[.int .i64 a0_4, .int .i64 a0_5] 44 (0, 0)) (by (with_reducible repeat (first | refine blk_drewN ?_ _ | refine blk_drew ?_ | refine blk_alloc ?_ _)); refine blk_put (cs := #[.int .i64 a0_4, .int .i64 0]) ?_ 1 _ rfl; (with_reducible repeat (first | refine blk_drewN ?_ _ | refine blk_drew ?_ | refine blk_alloc ?_ _)); refine blk_put (cs := #[.int .i64 0, .int .i64 0]) ?_ 0 _ rfl; (with_reducible repeat (first | refine blk_drewN ?_ _ | refine blk_drew ?_ | refine blk_alloc ?_ _)); exact BK339.out)) : gb340 ≠ gb339)); clear BK334; clear BK339; clear HB; have BK334 := n0_; have BK339 := n1_; have HB := n2_; have BK340 := n3_; have GW340 := n4_; have GE340 := n5_; have NB334_340 := n6_; have NB340_334 := n7_; have NB339_340 := n8_; have NB340_339 := n9_; clear n0_ n1_ n2_ n3_ n4_ n5_ n6_ n7_ n8_ n9_; clear hb hbox hg; have hnb30 := NB340_334.out; have hnc30 := NB334_340.out; have hnb31 := NB340_339.out; have hnc31 := NB339_340.out; obtain ⟨⟨hcz32_0, hcz32_1, hcz32_2, hcz32_3, hcz32_4⟩, hfz32_0, hfz32_1, hfz32_2, hfz32_3, hfz32_4⟩ := bx5 BK340))
   (try simp only [Act.put, List.setIfInBounds_toArray, List.set_cons_zero, List.set_cons_succ])
   go_cut [56] (fun v56 wc => ∃ (kq : Nat) (x56_22 : Bool), v56 = .bool x56_22 ∧ Aside0 (r04_conductor.j1 kq x56_22 a0_6 a0_7 a0_8 a0_9 a0_10 = some r) ∧ Aside0 (kq ≤ kj2) ∧ Aside0 (wc.heap[gb334]? = some (.cells #[.string a0_0, .int .i64 a0_1, .int .i64 a0_2, .int .i64 a0_3, .int .i64 a0_4, .int .i64 a0_5, .int .i64 a0_6, .int .i64 a0_7, .int .i64 a0_8, .int .i64 a0_9, .int .i64 a0_10] 48 (0, 0))) ∧ Aside0 (wc.heap[gb339]? = some (.cells #[.int .i64 a0_4, .int .i64 a0_5] 44 (0, 0))) ∧ Aside0 (wc.heap[gb340]? = some (.cells #[.int .i64 a0_6, .int .i64 a0_7, .int .i64 a0_8, .int .i64 a0_9, .int .i64 a0_10] 46 (0, 0))) ∧ Aside0 (Below w.heap.size w wc))
   case first =>
    have H := HC23.out
    clear HC23
    by_cases c33 : (!(a0_4 == 0) || (!(a0_5 == 0))) = true
    rotate_left
    ·rw [if_neg c33] at H
     have c33b0 : (!(a0_4 == 0) || (!(a0_5 == 0))) = false := by simpa using c33
     clear c33
     (first | rw [c33b0] | (simp only [i64_w, i32_w]; rw [c33b0]) | skip)
     have H' := Aside0.mk H
     clear H
     have hnb43 := NB339_334.out
     have hnc43 := NB334_339.out
     have hnb44 := NB339_340.out
     have hnc44 := NB340_339.out
     obtain ⟨⟨hcz45_0, hcz45_1⟩, hfz45_0, hfz45_1⟩ := bx2 BK339
     go_wp2
     go_meet
     case rel => exact ⟨_, (false), tQ, H', ⟨by have := HJ2.out; first | omega | exact Nat.le_refl _⟩, ⟨by (with_reducible repeat (first | refine blk_drewN ?_ _ | refine blk_drew ?_ | refine blk_alloc ?_ _)); refine blk_far ?_ NB334_340.out _; (with_reducible repeat (first | refine blk_drewN ?_ _ | refine blk_drew ?_ | refine blk_alloc ?_ _)); refine blk_far ?_ NB334_340.out _; (with_reducible repeat (first | refine blk_drewN ?_ _ | refine blk_drew ?_ | refine blk_alloc ?_ _)); refine blk_far ?_ NB334_340.out _; (with_reducible repeat (first | refine blk_drewN ?_ _ | refine blk_drew ?_ | refine blk_alloc ?_ _)); refine blk_far ?_ NB334_340.out _; (with_reducible repeat (first | refine blk_drewN ?_ _ | refine blk_drew ?_ | refine blk_alloc ?_ _)); refine blk_far ?_ NB334_340.out _; (with_reducible repeat (first | refine blk_drewN ?_ _ | refine blk_drew ?_ | refine blk_alloc ?_ _)); exact BK334.out⟩, ⟨by (with_reducible repeat (first | refine blk_drewN ?_ _ | refine blk_drew ?_ | refine blk_alloc ?_ _)); refine blk_far ?_ NB339_340.out _; (with_reducible repeat (first | refine blk_drewN ?_ _ | refine blk_drew ?_ | refine blk_alloc ?_ _)); refine blk_far ?_ NB339_340.out _; (with_reducible repeat (first | refine blk_drewN ?_ _ | refine blk_drew ?_ | refine blk_alloc ?_ _)); refine blk_far ?_ NB339_340.out _; (with_reducible repeat (first | refine blk_drewN ?_ _ | refine blk_drew ?_ | refine blk_alloc ?_ _)); refine blk_far ?_ NB339_340.out _; (with_reducible repeat (first | refine blk_drewN ?_ _ | refine blk_drew ?_ | refine blk_alloc ?_ _)); refine blk_far ?_ NB339_340.out _; (with_reducible repeat (first | refine blk_drewN ?_ _ | refine blk_drew ?_ | refine blk_alloc ?_ _)); exact BK339.out⟩, ⟨by (with_reducible repeat (first | refine blk_drewN ?_ _ | refine blk_drew ?_ | refine blk_alloc ?_ _)); refine blk_put (cs := #[.int .i64 a0_6, .int .i64 a0_7, .int .i64 a0_8, .int .i64 a0_9, .int .i64 0]) ?_ 4 _ rfl; (with_reducible repeat (first | refine blk_drewN ?_ _ | refine blk_drew ?_ | refine blk_alloc ?_ _)); refine blk_put (cs := #[.int .i64 a0_6, .int .i64 a0_7, .int .i64 a0_8, .int .i64 0, .int .i64 0]) ?_ 3 _ rfl; (with_reducible repeat (first | refine blk_drewN ?_ _ | refine blk_drew ?_ | refine blk_alloc ?_ _)); refine blk_put (cs := #[.int .i64 a0_6, .int .i64 a0_7, .int .i64 0, .int .i64 0, .int .i64 0]) ?_ 2 _ rfl; (with_reducible repeat (first | refine blk_drewN ?_ _ | refine blk_drew ?_ | refine blk_alloc ?_ _)); refine blk_put (cs := #[.int .i64 a0_6, .int .i64 0, .int .i64 0, .int .i64 0, .int .i64 0]) ?_ 1 _ rfl; (with_reducible repeat (first | refine blk_drewN ?_ _ | refine blk_drew ?_ | refine blk_alloc ?_ _)); refine blk_put (cs := #[.int .i64 0, .int .i64 0, .int .i64 0, .int .i64 0, .int .i64 0]) ?_ 0 _ rfl; (with_reducible repeat (first | refine blk_drewN ?_ _ | refine blk_drew ?_ | refine blk_alloc ?_ _)); exact BK340.out⟩, ⟨kB3 HB GE334 GE339 GE340⟩⟩
    rw [if_pos c33] at H
    have c33b0 : (!(a0_4 == 0) || (!(a0_5 == 0))) = true := c33
    clear c33
    (first | rw [c33b0] | (simp only [i64_w, i32_w]; rw [c33b0]) | skip)
    replace H := Option.bind_eq_some_iff.mp H
    obtain ⟨t341, A340, H⟩ := H
    replace H : (if t341 = true then ((r04_inside.f a0_5 0 1000000).bind fun t342 => (r04_conductor.j1 kj2 (!t342) a0_6 a0_7 a0_8 a0_9 a0_10)) else (r04_conductor.j1 kj2 true a0_6 a0_7 a0_8 a0_9 a0_10)) = some r := H
    have A34 := Aside0.mk A340
    clear A340
    by_cases c35 : t341 = true
    rotate_left
    ·replace c35 := Bool.eq_false_iff.mpr c35
     subst c35
     have H1 : (r04_conductor.j1 kj2 true a0_6 a0_7 a0_8 a0_9 a0_10) = some r := by rw [if_neg (show ¬ (false = true) by decide)] at H; exact H
     clear H
     have H := H1
     clear H1
     have H' := Aside0.mk H
     clear H
     have hnb40 := NB339_334.out
     have hnc40 := NB334_339.out
     have hnb41 := NB339_340.out
     have hnc41 := NB340_339.out
     obtain ⟨⟨hcz42_0, hcz42_1⟩, hfz42_0, hfz42_1⟩ := bx2 BK339
     go_wp2_with (first | (go_at_call 46; (with_reducible refine (r04_inside.calls a0_4 1 1000 false _ A34.out).mono ?_); rintro e w' ⟨rfl, ⟨nd, rfl⟩⟩))
     go_meet
     case rel => exact ⟨_, (true), tQ, H', ⟨by have := HJ2.out; first | omega | exact Nat.le_refl _⟩, ⟨by (with_reducible repeat (first | refine blk_drewN ?_ _ | refine blk_drew ?_ | refine blk_alloc ?_ _)); refine blk_far ?_ NB334_340.out _; (with_reducible repeat (first | refine blk_drewN ?_ _ | refine blk_drew ?_ | refine blk_alloc ?_ _)); refine blk_far ?_ NB334_340.out _; (with_reducible repeat (first | refine blk_drewN ?_ _ | refine blk_drew ?_ | refine blk_alloc ?_ _)); refine blk_far ?_ NB334_340.out _; (with_reducible repeat (first | refine blk_drewN ?_ _ | refine blk_drew ?_ | refine blk_alloc ?_ _)); refine blk_far ?_ NB334_340.out _; (with_reducible repeat (first | refine blk_drewN ?_ _ | refine blk_drew ?_ | refine blk_alloc ?_ _)); refine blk_far ?_ NB334_340.out _; (with_reducible repeat (first | refine blk_drewN ?_ _ | refine blk_drew ?_ | refine blk_alloc ?_ _)); exact BK334.out⟩, ⟨by (with_reducible repeat (first | refine blk_drewN ?_ _ | refine blk_drew ?_ | refine blk_alloc ?_ _)); refine blk_far ?_ NB339_340.out _; (with_reducible repeat (first | refine blk_drewN ?_ _ | refine blk_drew ?_ | refine blk_alloc ?_ _)); refine blk_far ?_ NB339_340.out _; (with_reducible repeat (first | refine blk_drewN ?_ _ | refine blk_drew ?_ | refine blk_alloc ?_ _)); refine blk_far ?_ NB339_340.out _; (with_reducible repeat (first | refine blk_drewN ?_ _ | refine blk_drew ?_ | refine blk_alloc ?_ _)); refine blk_far ?_ NB339_340.out _; (with_reducible repeat (first | refine blk_drewN ?_ _ | refine blk_drew ?_ | refine blk_alloc ?_ _)); refine blk_far ?_ NB339_340.out _; (with_reducible repeat (first | refine blk_drewN ?_ _ | refine blk_drew ?_ | refine blk_alloc ?_ _)); exact BK339.out⟩, ⟨by (with_reducible repeat (first | refine blk_drewN ?_ _ | refine blk_drew ?_ | refine blk_alloc ?_ _)); refine blk_put (cs := #[.int .i64 a0_6, .int .i64 a0_7, .int .i64 a0_8, .int .i64 a0_9, .int .i64 0]) ?_ 4 _ rfl; (with_reducible repeat (first | refine blk_drewN ?_ _ | refine blk_drew ?_ | refine blk_alloc ?_ _)); refine blk_put (cs := #[.int .i64 a0_6, .int .i64 a0_7, .int .i64 a0_8, .int .i64 0, .int .i64 0]) ?_ 3 _ rfl; (with_reducible repeat (first | refine blk_drewN ?_ _ | refine blk_drew ?_ | refine blk_alloc ?_ _)); refine blk_put (cs := #[.int .i64 a0_6, .int .i64 a0_7, .int .i64 0, .int .i64 0, .int .i64 0]) ?_ 2 _ rfl; (with_reducible repeat (first | refine blk_drewN ?_ _ | refine blk_drew ?_ | refine blk_alloc ?_ _)); refine blk_put (cs := #[.int .i64 a0_6, .int .i64 0, .int .i64 0, .int .i64 0, .int .i64 0]) ?_ 1 _ rfl; (with_reducible repeat (first | refine blk_drewN ?_ _ | refine blk_drew ?_ | refine blk_alloc ?_ _)); refine blk_put (cs := #[.int .i64 0, .int .i64 0, .int .i64 0, .int .i64 0, .int .i64 0]) ?_ 0 _ rfl; (with_reducible repeat (first | refine blk_drewN ?_ _ | refine blk_drew ?_ | refine blk_alloc ?_ _)); exact BK340.out⟩, ⟨kB3 HB GE334 GE339 GE340⟩⟩
    subst c35
    have H1 : ((r04_inside.f a0_5 0 1000000).bind fun t342 => (r04_conductor.j1 kj2 (!t342) a0_6 a0_7 a0_8 a0_9 a0_10)) = some r := by rw [if_pos rfl] at H; exact H
    clear H
    have H := H1
    clear H1
    replace H := Option.bind_eq_some_iff.mp H
    obtain ⟨t342, A360, H⟩ := H
    replace H : (r04_conductor.j1 kj2 (!t342) a0_6 a0_7 a0_8 a0_9 a0_10) = some r := H
    have A36 := Aside0.mk A360
    clear A360
    have H' := Aside0.mk H
    clear H
    have hnb37 := NB339_334.out
    have hnc37 := NB334_339.out
    have hnb38 := NB339_340.out
    have hnc38 := NB340_339.out
    obtain ⟨⟨hcz39_0, hcz39_1⟩, hfz39_0, hfz39_1⟩ := bx2 BK339
    go_wp2_with (first | (go_at_call 46; (with_reducible refine (r04_inside.calls a0_4 1 1000 true _ A34.out).mono ?_); rintro e w' ⟨rfl, ⟨nd, rfl⟩⟩) | (go_at_call 46; (with_reducible refine (r04_inside.calls a0_5 0 1000000 t342 _ A36.out).mono ?_); rintro e w' ⟨rfl, ⟨nd, rfl⟩⟩))
    go_meet
    case rel => exact ⟨_, (!t342), tQ, H', ⟨by have := HJ2.out; first | omega | exact Nat.le_refl _⟩, ⟨by (with_reducible repeat (first | refine blk_drewN ?_ _ | refine blk_drew ?_ | refine blk_alloc ?_ _)); refine blk_far ?_ NB334_340.out _; (with_reducible repeat (first | refine blk_drewN ?_ _ | refine blk_drew ?_ | refine blk_alloc ?_ _)); refine blk_far ?_ NB334_340.out _; (with_reducible repeat (first | refine blk_drewN ?_ _ | refine blk_drew ?_ | refine blk_alloc ?_ _)); refine blk_far ?_ NB334_340.out _; (with_reducible repeat (first | refine blk_drewN ?_ _ | refine blk_drew ?_ | refine blk_alloc ?_ _)); refine blk_far ?_ NB334_340.out _; (with_reducible repeat (first | refine blk_drewN ?_ _ | refine blk_drew ?_ | refine blk_alloc ?_ _)); refine blk_far ?_ NB334_340.out _; (with_reducible repeat (first | refine blk_drewN ?_ _ | refine blk_drew ?_ | refine blk_alloc ?_ _)); exact BK334.out⟩, ⟨by (with_reducible repeat (first | refine blk_drewN ?_ _ | refine blk_drew ?_ | refine blk_alloc ?_ _)); refine blk_far ?_ NB339_340.out _; (with_reducible repeat (first | refine blk_drewN ?_ _ | refine blk_drew ?_ | refine blk_alloc ?_ _)); refine blk_far ?_ NB339_340.out _; (with_reducible repeat (first | refine blk_drewN ?_ _ | refine blk_drew ?_ | refine blk_alloc ?_ _)); refine blk_far ?_ NB339_340.out _; (with_reducible repeat (first | refine blk_drewN ?_ _ | refine blk_drew ?_ | refine blk_alloc ?_ _)); refine blk_far ?_ NB339_340.out _; (with_reducible repeat (first | refine blk_drewN ?_ _ | refine blk_drew ?_ | refine blk_alloc ?_ _)); refine blk_far ?_ NB339_340.out _; (with_reducible repeat (first | refine blk_drewN ?_ _ | refine blk_drew ?_ | refine blk_alloc ?_ _)); exact BK339.out⟩, ⟨by (with_reducible repeat (first | refine blk_drewN ?_ _ | refine blk_drew ?_ | refine blk_alloc ?_ _)); refine blk_put (cs := #[.int .i64 a0_6, .int .i64 a0_7, .int .i64 a0_8, .int .i64 a0_9, .int .i64 0]) ?_ 4 _ rfl; (with_reducible repeat (first | refine blk_drewN ?_ _ | refine blk_drew ?_ | refine blk_alloc ?_ _)); refine blk_put (cs := #[.int .i64 a0_6, .int .i64 a0_7, .int .i64 a0_8, .int .i64 0, .int .i64 0]) ?_ 3 _ rfl; (with_reducible repeat (first | refine blk_drewN ?_ _ | refine blk_drew ?_ | refine blk_alloc ?_ _)); refine blk_put (cs := #[.int .i64 a0_6, .int .i64 a0_7, .int .i64 0, .int .i64 0, .int .i64 0]) ?_ 2 _ rfl; (with_reducible repeat (first | refine blk_drewN ?_ _ | refine blk_drew ?_ | refine blk_alloc ?_ _)); refine blk_put (cs := #[.int .i64 a0_6, .int .i64 0, .int .i64 0, .int .i64 0, .int .i64 0]) ?_ 1 _ rfl; (with_reducible repeat (first | refine blk_drewN ?_ _ | refine blk_drew ?_ | refine blk_alloc ?_ _)); refine blk_put (cs := #[.int .i64 0, .int .i64 0, .int .i64 0, .int .i64 0, .int .i64 0]) ?_ 0 _ rfl; (with_reducible repeat (first | refine blk_drewN ?_ _ | refine blk_drew ?_ | refine blk_alloc ?_ _)); exact BK340.out⟩, ⟨kB3 HB GE334 GE339 GE340⟩⟩
   case rest =>
    clear HC23
    obtain ⟨kq, x56_22, rfl, HA, HJ22, BK334, BK339, BK340, HB⟩ := hcut
    cases kq with
    | zero => exact absurd HA.out (by simp [r04_conductor.j1])
    | succ kj22 =>
     have H := HA.out
     clear HA
     simp only [r04_conductor.j1] at H
     by_cases c46 : x56_22 = true
     ·subst c46
      have H1 : (some false) = some r := by rw [if_pos rfl] at H; exact H
      clear H
      have H := H1
      clear H1
      obtain rfl := Option.some.inj H
      go_wp2
      go_ret
      exact ⟨by first | rfl | (simp [errW_none, errW_some] <;> rfl) | (simp [*, errW_none, errW_some] <;> rfl), kB3 HB GE334 GE339 GE340⟩
     replace c46 := Bool.eq_false_iff.mpr c46
     subst c46
     have H1 : (if (a0_6 == 0 && (a0_7 == 0 && (a0_8 == 0 && (a0_9 == 0 && (a0_10 == 0))))) = true then (r04_conductor.j2 kj22 true) else ((r04_inside.f a0_6 0 200000).bind fun t343 => (if t343 = true then ((r04_inside.f a0_7 (wrap64 (a0_6 + 1)) 200000).bind fun t344 => (if t344 = true then ((r04_inside.f a0_8 0 1000).bind fun t345 => (if t345 = true then ((r04_inside.f a0_9 0 1000).bind fun t346 => (if t346 = true then ((r04_inside.f a0_10 1 1000000).bind fun t347 => (r04_conductor.j2 kj22 t347)) else (r04_conductor.j2 kj22 false))) else (r04_conductor.j2 kj22 false))) else (r04_conductor.j2 kj22 false))) else (r04_conductor.j2 kj22 false)))) = some r := by rw [if_neg (show ¬ (false = true) by decide)] at H; exact H
     clear H
     have H := H1
     clear H1
     have HC47 := Aside0.mk H
     clear H
     go_upto_region 7 with (fail)
     go_cut [4] (fun v4 wc => ∃ (kq : Nat) (x4_46 : Bool), v4 = .bool x4_46 ∧ Aside0 (r04_conductor.j2 kq x4_46 = some r) ∧ Aside0 (kq ≤ kj22) ∧ Aside0 (wc.heap[gb334]? = some (.cells #[.string a0_0, .int .i64 a0_1, .int .i64 a0_2, .int .i64 a0_3, .int .i64 a0_4, .int .i64 a0_5, .int .i64 a0_6, .int .i64 a0_7, .int .i64 a0_8, .int .i64 a0_9, .int .i64 a0_10] 48 (0, 0))) ∧ Aside0 (wc.heap[gb339]? = some (.cells #[.int .i64 a0_4, .int .i64 a0_5] 44 (0, 0))) ∧ Aside0 (wc.heap[gb340]? = some (.cells #[.int .i64 a0_6, .int .i64 a0_7, .int .i64 a0_8, .int .i64 a0_9, .int .i64 a0_10] 46 (0, 0))) ∧ Aside0 (Below w.heap.size w wc))
     case first =>
      have H := HC47.out
      clear HC47
      by_cases c48 : (a0_6 == 0 && (a0_7 == 0 && (a0_8 == 0 && (a0_9 == 0 && (a0_10 == 0))))) = true
      ·rw [if_pos c48] at H
       have c48b0 : (a0_6 == 0 && (a0_7 == 0 && (a0_8 == 0 && (a0_9 == 0 && (a0_10 == 0))))) = true := c48
       (try (have c48b1 : decide (a0_6 = 0 && (a0_7 == 0 && (a0_8 == 0 && (a0_9 == 0 && (a0_10 == 0))))) = true := by simpa using c48))
       (try (have c48b2 : (a0_6 == 0 && (a0_7 == 0 && (a0_8 == 0 && (a0_9 == 0 && (a0_10 == 0))))) = true := by simpa using c48))
       clear c48
       (first | rw [c48b0] | (simp only [i64_w, i32_w]; rw [c48b0]) | skip)
       have H' := Aside0.mk H
       clear H
       have hnb49 := NB340_334.out
       have hnc49 := NB334_340.out
       have hnb50 := NB340_339.out
       have hnc50 := NB339_340.out
       obtain ⟨⟨hcz51_0, hcz51_1, hcz51_2, hcz51_3, hcz51_4⟩, hfz51_0, hfz51_1, hfz51_2, hfz51_3, hfz51_4⟩ := bx5 BK340
       go_wp2
       go_meet
       case rel => exact ⟨_, (true), tQ, H', ⟨by have := HJ2.out; have := HJ22.out; first | omega | exact Nat.le_refl _⟩, ⟨kK BK334⟩, ⟨kK BK339⟩, ⟨kK BK340⟩, ⟨kB3 HB GE334 GE339 GE340⟩⟩
      rw [if_neg c48] at H
      have c48b0 : (a0_6 == 0 && (a0_7 == 0 && (a0_8 == 0 && (a0_9 == 0 && (a0_10 == 0))))) = false := by simpa using c48
      (try (have c48b1 : decide (a0_6 = 0 && (a0_7 == 0 && (a0_8 == 0 && (a0_9 == 0 && (a0_10 == 0))))) = false := by simpa using c48))
      (try (have c48b2 : (a0_6 == 0 && (a0_7 == 0 && (a0_8 == 0 && (a0_9 == 0 && (a0_10 == 0))))) = false := by simpa using c48))
      (try (have c48b3 : ¬ (a0_6 = 0 && (a0_7 == 0 && (a0_8 == 0 && (a0_9 == 0 && (a0_10 == 0))))) := by simpa using c48))
      clear c48
      (first | rw [c48b0] | (simp only [i64_w, i32_w]; rw [c48b0]) | skip)
      replace H := Option.bind_eq_some_iff.mp H
      obtain ⟨t343, A520, H⟩ := H
      replace H : (if t343 = true then ((r04_inside.f a0_7 (wrap64 (a0_6 + 1)) 200000).bind fun t344 => (if t344 = true then ((r04_inside.f a0_8 0 1000).bind fun t345 => (if t345 = true then ((r04_inside.f a0_9 0 1000).bind fun t346 => (if t346 = true then ((r04_inside.f a0_10 1 1000000).bind fun t347 => (r04_conductor.j2 kj22 t347)) else (r04_conductor.j2 kj22 false))) else (r04_conductor.j2 kj22 false))) else (r04_conductor.j2 kj22 false))) else (r04_conductor.j2 kj22 false)) = some r := H
      have A52 := Aside0.mk A520
      clear A520
      by_cases c53 : t343 = true
      rotate_left
      ·replace c53 := Bool.eq_false_iff.mpr c53
       subst c53
       have H1 : (r04_conductor.j2 kj22 false) = some r := by rw [if_neg (show ¬ (false = true) by decide)] at H; exact H
       clear H
       have H := H1
       clear H1
       have H' := Aside0.mk H
       clear H
       have hnb73 := NB340_334.out
       have hnc73 := NB334_340.out
       have hnb74 := NB340_339.out
       have hnc74 := NB339_340.out
       obtain ⟨⟨hcz75_0, hcz75_1, hcz75_2, hcz75_3, hcz75_4⟩, hfz75_0, hfz75_1, hfz75_2, hfz75_3, hfz75_4⟩ := bx5 BK340
       go_wp2_with (first | (go_at_call 46; (with_reducible refine (r04_inside.calls a0_6 0 200000 false _ A52.out).mono ?_); rintro e w' ⟨rfl, ⟨nd, rfl⟩⟩))
       go_meet
       case rel => exact ⟨_, (false), tQ, H', ⟨by have := HJ2.out; have := HJ22.out; first | omega | exact Nat.le_refl _⟩, ⟨kK BK334⟩, ⟨kK BK339⟩, ⟨kK BK340⟩, ⟨kB3 HB GE334 GE339 GE340⟩⟩
      subst c53
      have H1 : ((r04_inside.f a0_7 (wrap64 (a0_6 + 1)) 200000).bind fun t344 => (if t344 = true then ((r04_inside.f a0_8 0 1000).bind fun t345 => (if t345 = true then ((r04_inside.f a0_9 0 1000).bind fun t346 => (if t346 = true then ((r04_inside.f a0_10 1 1000000).bind fun t347 => (r04_conductor.j2 kj22 t347)) else (r04_conductor.j2 kj22 false))) else (r04_conductor.j2 kj22 false))) else (r04_conductor.j2 kj22 false))) = some r := by rw [if_pos rfl] at H; exact H
      clear H
      have H := H1
      clear H1
      replace H := Option.bind_eq_some_iff.mp H
      obtain ⟨t344, A540, H⟩ := H
      replace H : (if t344 = true then ((r04_inside.f a0_8 0 1000).bind fun t345 => (if t345 = true then ((r04_inside.f a0_9 0 1000).bind fun t346 => (if t346 = true then ((r04_inside.f a0_10 1 1000000).bind fun t347 => (r04_conductor.j2 kj22 t347)) else (r04_conductor.j2 kj22 false))) else (r04_conductor.j2 kj22 false))) else (r04_conductor.j2 kj22 false)) = some r := H
      have A54 := Aside0.mk A540
      clear A540
      by_cases c55 : t344 = true
      rotate_left
      ·replace c55 := Bool.eq_false_iff.mpr c55
       subst c55
       have H1 : (r04_conductor.j2 kj22 false) = some r := by rw [if_neg (show ¬ (false = true) by decide)] at H; exact H
       clear H
       have H := H1
       clear H1
       have H' := Aside0.mk H
       clear H
       have hnb70 := NB340_334.out
       have hnc70 := NB334_340.out
       have hnb71 := NB340_339.out
       have hnc71 := NB339_340.out
       obtain ⟨⟨hcz72_0, hcz72_1, hcz72_2, hcz72_3, hcz72_4⟩, hfz72_0, hfz72_1, hfz72_2, hfz72_3, hfz72_4⟩ := bx5 BK340
       go_wp2_with (first | (go_at_call 46; (with_reducible refine (r04_inside.calls a0_6 0 200000 true _ A52.out).mono ?_); rintro e w' ⟨rfl, ⟨nd, rfl⟩⟩) | (go_at_call 46; (with_reducible refine (r04_inside.calls a0_7 (wrap64 (a0_6 + 1)) 200000 false _ A54.out).mono ?_); rintro e w' ⟨rfl, ⟨nd, rfl⟩⟩))
       go_meet
       case rel => exact ⟨_, (false), tQ, H', ⟨by have := HJ2.out; have := HJ22.out; first | omega | exact Nat.le_refl _⟩, ⟨kK BK334⟩, ⟨kK BK339⟩, ⟨kK BK340⟩, ⟨kB3 HB GE334 GE339 GE340⟩⟩
      subst c55
      have H1 : ((r04_inside.f a0_8 0 1000).bind fun t345 => (if t345 = true then ((r04_inside.f a0_9 0 1000).bind fun t346 => (if t346 = true then ((r04_inside.f a0_10 1 1000000).bind fun t347 => (r04_conductor.j2 kj22 t347)) else (r04_conductor.j2 kj22 false))) else (r04_conductor.j2 kj22 false))) = some r := by rw [if_pos rfl] at H; exact H
      clear H
      have H := H1
      clear H1
      replace H := Option.bind_eq_some_iff.mp H
      obtain ⟨t345, A560, H⟩ := H
      replace H : (if t345 = true then ((r04_inside.f a0_9 0 1000).bind fun t346 => (if t346 = true then ((r04_inside.f a0_10 1 1000000).bind fun t347 => (r04_conductor.j2 kj22 t347)) else (r04_conductor.j2 kj22 false))) else (r04_conductor.j2 kj22 false)) = some r := H
      have A56 := Aside0.mk A560
      clear A560
      by_cases c57 : t345 = true
      rotate_left
      ·replace c57 := Bool.eq_false_iff.mpr c57
       subst c57
       have H1 : (r04_conductor.j2 kj22 false) = some r := by rw [if_neg (show ¬ (false = true) by decide)] at H; exact H
       clear H
       have H := H1
       clear H1
       have H' := Aside0.mk H
       clear H
       have hnb67 := NB340_334.out
       have hnc67 := NB334_340.out
       have hnb68 := NB340_339.out
       have hnc68 := NB339_340.out
       obtain ⟨⟨hcz69_0, hcz69_1, hcz69_2, hcz69_3, hcz69_4⟩, hfz69_0, hfz69_1, hfz69_2, hfz69_3, hfz69_4⟩ := bx5 BK340
       go_wp2_with (first | (go_at_call 46; (with_reducible refine (r04_inside.calls a0_6 0 200000 true _ A52.out).mono ?_); rintro e w' ⟨rfl, ⟨nd, rfl⟩⟩) | (go_at_call 46; (with_reducible refine (r04_inside.calls a0_7 (wrap64 (a0_6 + 1)) 200000 true _ A54.out).mono ?_); rintro e w' ⟨rfl, ⟨nd, rfl⟩⟩) | (go_at_call 46; (with_reducible refine (r04_inside.calls a0_8 0 1000 false _ A56.out).mono ?_); rintro e w' ⟨rfl, ⟨nd, rfl⟩⟩))
       go_meet
       case rel => exact ⟨_, (false), tQ, H', ⟨by have := HJ2.out; have := HJ22.out; first | omega | exact Nat.le_refl _⟩, ⟨kK BK334⟩, ⟨kK BK339⟩, ⟨kK BK340⟩, ⟨kB3 HB GE334 GE339 GE340⟩⟩
      subst c57
      have H1 : ((r04_inside.f a0_9 0 1000).bind fun t346 => (if t346 = true then ((r04_inside.f a0_10 1 1000000).bind fun t347 => (r04_conductor.j2 kj22 t347)) else (r04_conductor.j2 kj22 false))) = some r := by rw [if_pos rfl] at H; exact H
      clear H
      have H := H1
      clear H1
      replace H := Option.bind_eq_some_iff.mp H
      obtain ⟨t346, A580, H⟩ := H
      replace H : (if t346 = true then ((r04_inside.f a0_10 1 1000000).bind fun t347 => (r04_conductor.j2 kj22 t347)) else (r04_conductor.j2 kj22 false)) = some r := H
      have A58 := Aside0.mk A580
      clear A580
      by_cases c59 : t346 = true
      rotate_left
      ·replace c59 := Bool.eq_false_iff.mpr c59
       subst c59
       have H1 : (r04_conductor.j2 kj22 false) = some r := by rw [if_neg (show ¬ (false = true) by decide)] at H; exact H
       clear H
       have H := H1
       clear H1
       have H' := Aside0.mk H
       clear H
       have hnb64 := NB340_334.out
       have hnc64 := NB334_340.out
       have hnb65 := NB340_339.out
       have hnc65 := NB339_340.out
       obtain ⟨⟨hcz66_0, hcz66_1, hcz66_2, hcz66_3, hcz66_4⟩, hfz66_0, hfz66_1, hfz66_2, hfz66_3, hfz66_4⟩ := bx5 BK340
       go_wp2_with (first | (go_at_call 46; (with_reducible refine (r04_inside.calls a0_6 0 200000 true _ A52.out).mono ?_); rintro e w' ⟨rfl, ⟨nd, rfl⟩⟩) | (go_at_call 46; (with_reducible refine (r04_inside.calls a0_7 (wrap64 (a0_6 + 1)) 200000 true _ A54.out).mono ?_); rintro e w' ⟨rfl, ⟨nd, rfl⟩⟩) | (go_at_call 46; (with_reducible refine (r04_inside.calls a0_8 0 1000 true _ A56.out).mono ?_); rintro e w' ⟨rfl, ⟨nd, rfl⟩⟩) | (go_at_call 46; (with_reducible refine (r04_inside.calls a0_9 0 1000 false _ A58.out).mono ?_); rintro e w' ⟨rfl, ⟨nd, rfl⟩⟩))
       go_meet
       case rel => exact ⟨_, (false), tQ, H', ⟨by have := HJ2.out; have := HJ22.out; first | omega | exact Nat.le_refl _⟩, ⟨kK BK334⟩, ⟨kK BK339⟩, ⟨kK BK340⟩, ⟨kB3 HB GE334 GE339 GE340⟩⟩
      subst c59
      have H1 : ((r04_inside.f a0_10 1 1000000).bind fun t347 => (r04_conductor.j2 kj22 t347)) = some r := by rw [if_pos rfl] at H; exact H
      clear H
      have H := H1
      clear H1
      replace H := Option.bind_eq_some_iff.mp H
      obtain ⟨t347, A600, H⟩ := H
      replace H : (r04_conductor.j2 kj22 t347) = some r := H
      have A60 := Aside0.mk A600
      clear A600
      have H' := Aside0.mk H
      clear H
      have hnb61 := NB340_334.out
      have hnc61 := NB334_340.out
      have hnb62 := NB340_339.out
      have hnc62 := NB339_340.out
      obtain ⟨⟨hcz63_0, hcz63_1, hcz63_2, hcz63_3, hcz63_4⟩, hfz63_0, hfz63_1, hfz63_2, hfz63_3, hfz63_4⟩ := bx5 BK340
      go_wp2_with (first | (go_at_call 46; (with_reducible refine (r04_inside.calls a0_6 0 200000 true _ A52.out).mono ?_); rintro e w' ⟨rfl, ⟨nd, rfl⟩⟩) | (go_at_call 46; (with_reducible refine (r04_inside.calls a0_7 (wrap64 (a0_6 + 1)) 200000 true _ A54.out).mono ?_); rintro e w' ⟨rfl, ⟨nd, rfl⟩⟩) | (go_at_call 46; (with_reducible refine (r04_inside.calls a0_8 0 1000 true _ A56.out).mono ?_); rintro e w' ⟨rfl, ⟨nd, rfl⟩⟩) | (go_at_call 46; (with_reducible refine (r04_inside.calls a0_9 0 1000 true _ A58.out).mono ?_); rintro e w' ⟨rfl, ⟨nd, rfl⟩⟩) | (go_at_call 46; (with_reducible refine (r04_inside.calls a0_10 1 1000000 t347 _ A60.out).mono ?_); rintro e w' ⟨rfl, ⟨nd, rfl⟩⟩))
      go_meet
      case rel => exact ⟨_, (t347), tQ, H', ⟨by have := HJ2.out; have := HJ22.out; first | omega | exact Nat.le_refl _⟩, ⟨kK BK334⟩, ⟨kK BK339⟩, ⟨kK BK340⟩, ⟨kB3 HB GE334 GE339 GE340⟩⟩
     case rest =>
      clear HC47
      obtain ⟨kq, x4_46, rfl, HA, HJ46, BK334, BK339, BK340, HB⟩ := hcut
      cases kq with
      | zero => exact absurd HA.out (by simp [r04_conductor.j2])
      | succ kj46 =>
       have H := HA.out
       clear HA
       simp only [r04_conductor.j2] at H
       obtain rfl := Option.some.inj H
       go_wp2
       go_ret
       exact ⟨by first | rfl | (simp [errW_none, errW_some] <;> rfl) | (simp [*, errW_none, errW_some] <;> rfl), kB3 HB GE334 GE339 GE340⟩
end Go.Proofs.Ytpdmnineampimaa.Q
