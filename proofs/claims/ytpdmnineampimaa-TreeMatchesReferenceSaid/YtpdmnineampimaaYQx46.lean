import Derived.Test.YtpdmnineampimaaYe
import Derived.Test.YtpdmnineampimaaYQx41
import Derived.Test.YtpdmnineampimaaYQx43
import Derived.Test.YtpdmnineampimaaYQx44
import Derived.Test.YtpdmnineampimaaYQx45
set_option linter.unusedVariables false
set_option linter.unusedSimpArgs false
namespace Go.Proofs.Ytpdmnineampimaa.Q
open Go.RowKit Go.Proofs.YtpdmnineampimaaW.PrintWords Go.Proofs.YtpdmnineampimaaW.PrintLast Go.Proofs.YtpdmnineampimaaW.PrintMore
attribute [local go_sem] max2_int min2_int max_two min_two max_three min_three max_four min_four
mutual
def r08_Loads.j0 : Nat → List Int → Bool → List (S48) → List (S62) → List (S84) → List (S42) → List (S87) → Option ((List (S55)) × Int)
  | 0, _, _, _, _, _, _, _ => none
  | k + 1, x1, x18, x386000, x386001, x386002, x386003, x386004 => if x18 = true then (some (([] : List (S55)), 1)) else (if 0 ≤ (x386000.length : Int) then (if ((x386000.length : Int) : Int).toNat ≤ 11728124029610 then (r08_Loads.l0 k x1 (List.replicate ((x386000.length : Int) : Int).toNat z55) 0 x386000 x386001 x386002 x386003 x386004) else (none)) else (none))
def r08_Loads.l0 : Nat → List Int → List (S55) → Int → List (S48) → List (S62) → List (S84) → List (S42) → List (S87) → Option ((List (S55)) × Int)
  | 0, _, _, _, _, _, _, _, _ => none
  | k + 1, x1, x6, x7, x386000, x386001, x386002, x386003, x386004 => if x7 < (x386000.length : Int) then (r08_Loads.l1 k x1 x6 x7 0 x386000 x386001 x386002 x386003 x386004) else (some (x6, 0))
def r08_Loads.l1 : Nat → List Int → List (S55) → Int → Int → List (S48) → List (S62) → List (S84) → List (S42) → List (S87) → Option ((List (S55)) × Int)
  | 0, _, _, _, _, _, _, _, _, _ => none
  | k + 1, x1, x6, x7, x8, x386000, x386001, x386002, x386003, x386004 => if x8 < (x386003.length : Int) then (r08_Loads.l2 k x1 x6 x7 x8 0 x386000 x386001 x386002 x386003 x386004) else (r08_Loads.l0 k x1 x6 (wrap64 (x7 + 1)) x386000 x386001 x386002 x386003 x386004)
def r08_Loads.l2 : Nat → List Int → List (S55) → Int → Int → Int → List (S48) → List (S62) → List (S84) → List (S42) → List (S87) → Option ((List (S55)) × Int)
  | 0, _, _, _, _, _, _, _, _, _, _ => none
  | k + 1, x1, x6, x7, x8, x9, x386000, x386001, x386002, x386003, x386004 => if x9 < 3 then (if 0 ≤ x8 then (if x8 < (x386003.length : Int) then ((r08_Uses.f ((rd_T42 x386003 x8).f0) ((rd_T42 x386003 x8).f1) ((rd_T42 x386003 x8).f2) ((rd_T42 x386003 x8).f3) ((rd_T42 x386003 x8).f4) ((rd_T42 x386003 x8).f5) ((rd_T42 x386003 x8).f6) ((rd_T42 x386003 x8).f7) x9).bind fun t392 => (if t392 = true then ((r08_On.f k x386000 x386001 x386002 x386003 x386004 x7 ((rd_T42 x386003 x8).f1)).bind fun t394 => (if t394 = true then (if 0 ≤ x7 then (if x7 < (x6.length : Int) then (if x9 = 0 then (if x8 < (x1.length : Int) then (r08_Loads.l2 k x1 (x6.set (x7 : Int).toNat (⟨wrap64 (((rd_T55 x6 x7).f0) + (rd x1 x8)), (rd_T55 x6 x7).f1, (rd_T55 x6 x7).f2⟩ : S55)) x7 x8 (wrap64 (x9 + 1)) x386000 x386001 x386002 x386003 x386004) else (none)) else (if x9 = 1 then (if x8 < (x1.length : Int) then (r08_Loads.l2 k x1 (x6.set (x7 : Int).toNat (⟨(rd_T55 x6 x7).f0, wrap64 (((rd_T55 x6 x7).f1) + (rd x1 x8)), (rd_T55 x6 x7).f2⟩ : S55)) x7 x8 (wrap64 (x9 + 1)) x386000 x386001 x386002 x386003 x386004) else (none)) else (if x9 = 2 then (if x8 < (x1.length : Int) then (r08_Loads.l2 k x1 (x6.set (x7 : Int).toNat (⟨(rd_T55 x6 x7).f0, (rd_T55 x6 x7).f1, wrap64 (((rd_T55 x6 x7).f2) + (rd x1 x8))⟩ : S55)) x7 x8 (wrap64 (x9 + 1)) x386000 x386001 x386002 x386003 x386004) else (none)) else (none)))) else (none)) else (none)) else (r08_Loads.l2 k x1 x6 x7 x8 (wrap64 (x9 + 1)) x386000 x386001 x386002 x386003 x386004))) else (r08_Loads.l2 k x1 x6 x7 x8 (wrap64 (x9 + 1)) x386000 x386001 x386002 x386003 x386004))) else (none)) else (none)) else (r08_Loads.l1 k x1 x6 x7 (wrap64 (x8 + 1)) x386000 x386001 x386002 x386003 x386004)
end
def r08_Loads.f (k : Nat) (l0_0 : List (S48)) (l0_1 : List (S62)) (l0_2 : List (S84)) (l0_3 : List (S42)) (l0_4 : List (S87)) (l1 : List Int) : Option ((List (S55)) × Int) := (r04_Valid.f k l0_0 l0_1 l0_2 l0_3 l0_4).bind fun t386 => (if t386 = true then ((r08_Currents.f k l0_0 l0_1 l0_2 l0_3 l0_4 l1).bind fun t387 => (r08_Loads.j0 k l1 (!t387) l0_0 l0_1 l0_2 l0_3 l0_4)) else (r08_Loads.j0 k l1 true l0_0 l0_1 l0_2 l0_3 l0_4))
theorem r08_Loads.mono_l : ∀ k, (∀ y0 y1 y2 y3 y4 y5 y6, LeO (r08_Loads.j0 k y0 y1 y2 y3 y4 y5 y6) (r08_Loads.j0 (k + 1) y0 y1 y2 y3 y4 y5 y6)) ∧ (∀ y0 y1 y2 y3 y4 y5 y6 y7, LeO (r08_Loads.l0 k y0 y1 y2 y3 y4 y5 y6 y7) (r08_Loads.l0 (k + 1) y0 y1 y2 y3 y4 y5 y6 y7)) ∧ (∀ y0 y1 y2 y3 y4 y5 y6 y7 y8, LeO (r08_Loads.l1 k y0 y1 y2 y3 y4 y5 y6 y7 y8) (r08_Loads.l1 (k + 1) y0 y1 y2 y3 y4 y5 y6 y7 y8)) ∧ (∀ y0 y1 y2 y3 y4 y5 y6 y7 y8 y9, LeO (r08_Loads.l2 k y0 y1 y2 y3 y4 y5 y6 y7 y8 y9) (r08_Loads.l2 (k + 1) y0 y1 y2 y3 y4 y5 y6 y7 y8 y9))
  | 0 => ⟨fun _ _ _ _ _ _ _ r h => by simp [r08_Loads.j0] at h, fun _ _ _ _ _ _ _ _ r h => by simp [r08_Loads.l0] at h, fun _ _ _ _ _ _ _ _ _ r h => by simp [r08_Loads.l1] at h, fun _ _ _ _ _ _ _ _ _ _ r h => by simp [r08_Loads.l2] at h⟩
  | k + 1 => by
    obtain ⟨ih0, ih1, ih2, ih3⟩ := r08_Loads.mono_l k
    refine ⟨?_, ?_, ?_, ?_⟩
    · intro y0 y1 y2 y3 y4 y5 y6
      unfold r08_Loads.j0
      repeat' first | (with_reducible apply ih0) | (with_reducible apply ih1) | (with_reducible apply ih2) | (with_reducible apply ih3) | (with_reducible exact r04_Valid.mono _ _ _ _ _ _) | (with_reducible exact r08_Currents.mono _ _ _ _ _ _ _) | (with_reducible exact r08_On.mono _ _ _ _ _ _ _ _) | (with_reducible exact LeO.refl _) | (with_reducible exact LeO.none _) | (with_reducible refine LeO.ite ?_ ?_) | (with_reducible refine LeO.bind ?_ (fun _ => ?_))
    · intro y0 y1 y2 y3 y4 y5 y6 y7
      unfold r08_Loads.l0
      repeat' first | (with_reducible apply ih0) | (with_reducible apply ih1) | (with_reducible apply ih2) | (with_reducible apply ih3) | (with_reducible exact r04_Valid.mono _ _ _ _ _ _) | (with_reducible exact r08_Currents.mono _ _ _ _ _ _ _) | (with_reducible exact r08_On.mono _ _ _ _ _ _ _ _) | (with_reducible exact LeO.refl _) | (with_reducible exact LeO.none _) | (with_reducible refine LeO.ite ?_ ?_) | (with_reducible refine LeO.bind ?_ (fun _ => ?_))
    · intro y0 y1 y2 y3 y4 y5 y6 y7 y8
      unfold r08_Loads.l1
      repeat' first | (with_reducible apply ih0) | (with_reducible apply ih1) | (with_reducible apply ih2) | (with_reducible apply ih3) | (with_reducible exact r04_Valid.mono _ _ _ _ _ _) | (with_reducible exact r08_Currents.mono _ _ _ _ _ _ _) | (with_reducible exact r08_On.mono _ _ _ _ _ _ _ _) | (with_reducible exact LeO.refl _) | (with_reducible exact LeO.none _) | (with_reducible refine LeO.ite ?_ ?_) | (with_reducible refine LeO.bind ?_ (fun _ => ?_))
    · intro y0 y1 y2 y3 y4 y5 y6 y7 y8 y9
      unfold r08_Loads.l2
      repeat' first | (with_reducible apply ih0) | (with_reducible apply ih1) | (with_reducible apply ih2) | (with_reducible apply ih3) | (with_reducible exact r04_Valid.mono _ _ _ _ _ _) | (with_reducible exact r08_Currents.mono _ _ _ _ _ _ _) | (with_reducible exact r08_On.mono _ _ _ _ _ _ _ _) | (with_reducible exact LeO.refl _) | (with_reducible exact LeO.none _) | (with_reducible refine LeO.ite ?_ ?_) | (with_reducible refine LeO.bind ?_ (fun _ => ?_))
theorem r08_Loads.mono : ∀ a0 a1 a2 a3 a4 a5 k, LeO (r08_Loads.f k a0 a1 a2 a3 a4 a5) (r08_Loads.f (k + 1) a0 a1 a2 a3 a4 a5) := by
  intro a0 a1 a2 a3 a4 a5 k
  obtain ⟨ih0, ih1, ih2, ih3⟩ := r08_Loads.mono_l k
  unfold r08_Loads.f
  repeat' first | (with_reducible apply ih0) | (with_reducible apply ih1) | (with_reducible apply ih2) | (with_reducible apply ih3) | (with_reducible exact r04_Valid.mono _ _ _ _ _ _) | (with_reducible exact r08_Currents.mono _ _ _ _ _ _ _) | (with_reducible exact r08_On.mono _ _ _ _ _ _ _ _) | (with_reducible exact LeO.refl _) | (with_reducible exact LeO.none _) | (with_reducible refine LeO.ite ?_ ?_) | (with_reducible refine LeO.bind ?_ (fun _ => ?_))
def r08_Loads.T13 : Bool × List (List Nat × List Nat) := (true, [([], []), ([0], [0]), ([], []), ([1, 2], [1, 2]), ([3], [3]), ([], []), ([4, 5], [4, 5]), ([6, 6], [6]), ([7], [7]), ([7], [7]), ([7], [7]), ([10, 7], [7, 10]), ([7], [7]), ([11, 12, 7], [7, 11, 12]), ([13, 7], [7, 13]), ([14, 7], [7, 14]), ([8, 9, 15, 7, 7], [7, 8, 9, 15]), ([7, 16], [7, 16])])
def r08_Loads.B13 : List Nat := [0, 1, 0, 7, 15, 0, 63, 127, 255, 255, 255, 1279, 255, 7423, 15615, 31999, 65535, 131071]
theorem r08_Loads.tab13 : rtab .any (opsOf Try.f15 13) = r08_Loads.T13 := by kernel_rfl
theorem r08_Loads.bits13 : waitsOk r08_Loads.T13.2 r08_Loads.B13 = true := by kernel_rfl
def r08_Loads.T14 : Bool × List (List Nat × List Nat) := (true, [([], []), ([], []), ([], []), ([], []), ([], []), ([], []), ([3, 4], [3, 4]), ([6, 5], [5, 6]), ([7], [7]), ([], []), ([], []), ([9, 10], [9, 10]), ([11], [11]), ([8, 12], [8, 12]), ([0, 1], [0, 1]), ([14, 2, 0, 1, 2, 3, 4, 5, 6, 7, 8, 9, 10, 11, 12, 13], [2, 14]), ([15, 13, 0, 1, 2, 3, 4, 5, 6, 7, 8, 9, 10, 11, 12, 13], [13, 15])])
def r08_Loads.B14 : List Nat := [0, 0, 0, 0, 0, 0, 24, 120, 248, 0, 0, 1536, 3584, 8184, 3, 32767, 65535]
theorem r08_Loads.tab14 : rtab .any (opsOf Try.f15 14) = r08_Loads.T14 := by kernel_rfl
theorem r08_Loads.bits14 : waitsOk r08_Loads.T14.2 r08_Loads.B14 = true := by kernel_rfl
set_option maxHeartbeats 8000000 in
set_option maxRecDepth 100000 in
theorem r08_Loads.calls (k : Nat) (A0_0 : Option Addr) (c0_0 : Nat) (l0_0 : List (S48)) (A0_1 : Option Addr) (c0_1 : Nat) (l0_1 : List (S62)) (A0_2 : Option Addr) (c0_2 : Nat) (l0_2 : List (S84)) (A0_3 : Option Addr) (c0_3 : Nat) (l0_3 : List (S42)) (A0_4 : Option Addr) (c0_4 : Nat) (l0_4 : List (S87)) (A1 : Option Addr) (c1 : Nat) (l1 : List Int) (r1 : List (S55)) (r2 : Int) (w : World) (hr0_0 : Kd.C k48 w A0_0 l0_0.length l0_0) (hc0_0 : l0_0.length ≤ c0_0) (hr0_1 : Kd.C k62 w A0_1 l0_1.length l0_1) (hc0_1 : l0_1.length ≤ c0_1) (hr0_2 : Kd.C k84 w A0_2 l0_2.length l0_2) (hc0_2 : l0_2.length ≤ c0_2) (hr0_3 : Kd.C k42 w A0_3 l0_3.length l0_3) (hc0_3 : l0_3.length ≤ c0_3) (hr0_4 : Kd.C k87 w A0_4 l0_4.length l0_4) (hc0_4 : l0_4.length ≤ c0_4) (hr1 : Kd.C (Kd.int .i64) w A1 l1.length l1) (hc1 : l1.length ≤ c1) (h : r08_Loads.f k l0_0 l0_1 l0_2 l0_3 l0_4 l1 = some (r1, r2)) :
    Calls Try.prog 15 #[.agg #[.slice A0_0 l0_0.length c0_0, .slice A0_1 l0_1.length c0_1, .slice A0_2 l0_2.length c0_2, .slice A0_3 l0_3.length c0_3, .slice A0_4 l0_4.length c0_4], .slice A1 l1.length c1] w fun e w' => ∃ v0_ : Value, e = .returned (.tuple #[v0_, .int .i64 r2]) ∧ Kd.R k55 55 w' w.heap.size (fun _ => True) v0_ r1 ∧ Below w.heap.size w w' := by
 have hu28 := Try.underlying28
 have hu42 := Try.underlying42
 have HR0_0 := Aside0.mk hr0_0
 have HC0_0 := Aside0.mk hc0_0
 clear hr0_0 hc0_0
 have HR0_1 := Aside0.mk hr0_1
 have HC0_1 := Aside0.mk hc0_1
 clear hr0_1 hc0_1
 have HR0_2 := Aside0.mk hr0_2
 have HC0_2 := Aside0.mk hc0_2
 clear hr0_2 hc0_2
 have HR0_3 := Aside0.mk hr0_3
 have HC0_3 := Aside0.mk hc0_3
 clear hr0_3 hc0_3
 have HR0_4 := Aside0.mk hr0_4
 have HC0_4 := Aside0.mk hc0_4
 clear hr0_4 hc0_4
 have HR1 := Aside0.mk hr1
 have HC1 := Aside0.mk hc1
 clear hr1 hc1
 have HB := Aside0.mk (Below.refl w.heap.size w)
 (try unfold r08_Loads.f at h)
 have H := h
 clear h
 have HC3 := Aside0.mk H
 clear H
 go_enter Try.func15, Try.ntmps15
 go_upto_region 1 with (first | ((with_reducible refine gate_dst (N := 2) rfl ?_); refine bE 2 28 #[.slice A0_0 l0_0.length c0_0, .slice A0_1 l0_1.length c0_1, .slice A0_2 l0_2.length c0_2, .slice A0_3 l0_3.length c0_3, .slice A0_4 l0_4.length c0_4] ?_; intro gb385 hg w4 hbox hb; have BK385 := Aside0.mk hbox; have GW385 := gE hg (kB HB); have GE385 := gE hg (kB HB); replace HB := bS (kB HB) hb; clear hb hbox hg))
 (try simp only [Act.put, List.setIfInBounds_toArray, List.set_cons_zero, List.set_cons_succ])
 go_cut [18] (fun v18 wc => ∃ (kq : Nat) (x18_2 : Bool), v18 = .bool x18_2 ∧ Aside0 (r08_Loads.j0 kq l1 x18_2 l0_0 l0_1 l0_2 l0_3 l0_4 = some (r1, r2)) ∧ Aside0 (kq ≤ k) ∧ Aside0 (wc.heap[gb385]? = some (.cells #[(.slice A0_0 l0_0.length c0_0), (.slice A0_1 l0_1.length c0_1), (.slice A0_2 l0_2.length c0_2), (.slice A0_3 l0_3.length c0_3), (.slice A0_4 l0_4.length c0_4)] 28 (0, 0))) ∧ Aside0 (Below w.heap.size w wc))
 case first =>
  have H := HC3.out
  clear HC3
  replace H := Option.bind_eq_some_iff.mp H
  obtain ⟨t386, A50, H⟩ := H
  replace H : (if t386 = true then ((r08_Currents.f k l0_0 l0_1 l0_2 l0_3 l0_4 l1).bind fun t387 => (r08_Loads.j0 k l1 (!t387) l0_0 l0_1 l0_2 l0_3 l0_4)) else (r08_Loads.j0 k l1 true l0_0 l0_1 l0_2 l0_3 l0_4)) = some (r1, r2) := H
  have A5 := Aside0.mk A50
  clear A50
  by_cases c6 : t386 = true
  rotate_left
  ·replace c6 := Bool.eq_false_iff.mpr c6
   subst c6
   replace H := ifF H
   have H' := Aside0.mk H
   clear H
   obtain ⟨⟨_,_,_,_,_⟩,_,_,_,_,_⟩ := bx5 BK385
   go_wp2_with (first | ((with_reducible refine gate_callee (f := 30) rfl ?_); refine gL (some 11) Try.func30 #[.agg #[.slice A0_0 l0_0.length c0_0, .slice A0_1 l0_1.length c0_1, .slice A0_2 l0_2.length c0_2, .slice A0_3 l0_3.length c0_3, .slice A0_4 l0_4.length c0_4]] (r04_Valid.calls k _ _ l0_0 _ _ l0_1 _ _ l0_2 _ _ l0_3 _ _ l0_4 false _ (sC HR0_0 HB) HC0_0.out (sC HR0_1 HB) HC0_1.out (sC HR0_2 HB) HC0_2.out (sC HR0_3 HB) HC0_3.out (sC HR0_4 HB) HC0_4.out A5.out) ?_; rintro e w13 ⟨rfl, hb⟩; refine ⟨_, rfl, ?_⟩; replace BK385 := bK BK385 hb; replace HB := bS (kB1 HB GE385) hb))
   go_meet
   case rel => exact ⟨_, (true), tQ, H', ⟨tN⟩, ⟨kK BK385⟩, ⟨kB1 HB GE385⟩⟩
  subst c6
  replace H := ifT H
  replace H := Option.bind_eq_some_iff.mp H
  obtain ⟨t387, A70, H⟩ := H
  replace H : (r08_Loads.j0 k l1 (!t387) l0_0 l0_1 l0_2 l0_3 l0_4) = some (r1, r2) := H
  have A7 := Aside0.mk A70
  clear A70
  have H' := Aside0.mk H
  clear H
  obtain ⟨⟨_,_,_,_,_⟩,_,_,_,_,_⟩ := bx5 BK385
  go_wp2_with (first | ((with_reducible refine gate_callee (f := 30) rfl ?_); refine gL (some 11) Try.func30 #[.agg #[.slice A0_0 l0_0.length c0_0, .slice A0_1 l0_1.length c0_1, .slice A0_2 l0_2.length c0_2, .slice A0_3 l0_3.length c0_3, .slice A0_4 l0_4.length c0_4]] (r04_Valid.calls k _ _ l0_0 _ _ l0_1 _ _ l0_2 _ _ l0_3 _ _ l0_4 true _ (sC HR0_0 HB) HC0_0.out (sC HR0_1 HB) HC0_1.out (sC HR0_2 HB) HC0_2.out (sC HR0_3 HB) HC0_3.out (sC HR0_4 HB) HC0_4.out A5.out) ?_; rintro e w9 ⟨rfl, hb⟩; refine ⟨_, rfl, ?_⟩; replace BK385 := bK BK385 hb; replace HB := bS (kB1 HB GE385) hb; obtain ⟨⟨_,_,_,_,_⟩,_,_,_,_,_⟩ := bx5 BK385) | (go_at_call 33; (with_reducible refine (r08_Currents.calls k _ _ l0_0 _ _ l0_1 _ _ l0_2 _ _ l0_3 _ _ l0_4 _ _ l1 t387 _ (sC HR0_0 HB) HC0_0.out (sC HR0_1 HB) HC0_1.out (sC HR0_2 HB) HC0_2.out (sC HR0_3 HB) HC0_3.out (sC HR0_4 HB) HC0_4.out (sC HR1 HB) HC1.out A7.out).mono ?_); rintro e w11 ⟨rfl, hb⟩; replace BK385 := bK BK385 hb; replace HB := bS (kB1 HB GE385) hb))
  go_meet
  case rel => exact ⟨_, (!t387), tQ, H', ⟨tN⟩, ⟨kK BK385⟩, ⟨kB1 HB GE385⟩⟩
 case rest =>
  clear HC3
  obtain ⟨kq, x18_2, rfl, HA, HJ2, BK385, HB⟩ := hcut
  cases kq with
  | zero => exact absurd HA.out (by simp [r08_Loads.j0])
  | succ kj2 =>
   have H := HA.out
   clear HA
   simp only [r08_Loads.j0] at H
   by_cases c14 : x18_2 = true
   ·subst c14
    replace H := ifT H
    simp only [Option.some.injEq, Prod.mk.injEq] at H
    obtain ⟨rfl, rfl⟩ := H
    go_wp2
    go_ret2
    exact ⟨_, tE, by first | exact Kd.R_nil _ _ _ _ _ | exact Kd.N_nil _ _ _ _ _ | exact Kd.V_nil _ _ _ _ _ | exact Kd.Q_nil _ _ _ _ _ | exact Kd.S_nil _ _ _ _ _, kB1 HB GE385⟩
   replace c14 := Bool.eq_false_iff.mpr c14
   subst c14
   replace H := ifF H
   by_cases c15 : 0 ≤ (l0_0.length : Int)
   rotate_left
   ·rw [if_neg c15] at H
    exact absurd H (by simp)
   rw [if_pos c15] at H
   have c15b0 := eq_true c15
   have c15b1 : decide (0 ≤ (l0_0.length : Int)) = true := decide_eq_true c15
   clear c15
   by_cases c16 : ((l0_0.length : Int) : Int).toNat ≤ 11728124029610
   rotate_left
   ·rw [if_neg c16] at H
    exact absurd H (by simp)
   rw [if_pos c16] at H
   have c16b0 := eq_true c16
   have c16b1 : decide (((l0_0.length : Int) : Int).toNat ≤ 11728124029610) = true := decide_eq_true c16
   clear c16
   obtain ⟨y388, hy388⟩ : ∃ y_ : List (S55), y_ = (List.replicate ((l0_0.length : Int) : Int).toNat z55) := ⟨_, rfl⟩
   replace H : (r08_Loads.l0 kj2 l1 y388 0 l0_0 l0_1 l0_2 l0_3 l0_4) = some (r1, r2) := by first | (rw [hy388]; with_reducible exact H) | (have H2_ := (Option.bind_some _ _).symm.trans H; rw [hy388]; with_reducible exact H2_) | (have H2_ := (Option.bind_some _ _).symm.trans H; with_reducible exact H2_) | with_reducible exact H | (rw [hy388]; exact H) | exact H
   have Ny388 := Aside0.mk hy388
   clear hy388
   have H' := Aside0.mk H
   clear H
   obtain ⟨⟨_,_,_,_,_⟩,_,_,_,_,_⟩ := bx5 BK385
   go_wp2_with (first | ((with_reducible refine gate_dst (N := 22) rfl ?_); refine Kd.R_make k55 _ 55 rfl (N := 22) rfl 35 _ _ rfl (l0_0.length : Int) rfl rfl Try.underlying35 (.agg #[(.int .i64 0), (.int .i64 0), (.int .i64 0)]) 24 info55 rfl (by decide) (by omega) z55 (ok := fun _ => True) (okp := fun _ => True) (k55_mkM _ _ _ z55 ) (fun _ hk => hk) trivial (tD) (Nat.le_trans (Nat.mul_le_mul_right _ (tD : (l0_0.length : Int).toNat ≤ 11728124029610)) (by omega)) (Below.refl _ _) (Nat.le_refl _) ?_; intro v389 w18 ho19 hb hg_ hnew_; clear hg_ hnew_; (first | rw [← Ny388.out] at ho19 | (simp only [Int.reduceToNat] at ho19; rw [← Ny388.out] at ho19)); have HO390 := Aside0.mk (Kd.R_lower ho19 (below_size (kB1 HB GE385))); replace BK385 := bK BK385 hb; replace HB := bS (kB1 HB GE385) hb; clear hb ho19))
   go_loopg [7] kj2 (fun kq v7 w' => ∃ (x6_2 : List (S55)) (x7_2 : Int), v7 = .int .i64 x7_2 ∧ Aside0 (r08_Loads.l0 kq l1 x6_2 x7_2 l0_0 l0_1 l0_2 l0_3 l0_4 = some (r1, r2)) ∧ Aside0 (kq ≤ kj2) ∧ Aside0 (Kd.R k55 55 w' w.heap.size (fun _ => True) v389 x6_2) ∧ Aside0 (w'.heap[gb385]? = some (.cells #[(.slice A0_0 l0_0.length c0_0), (.slice A0_1 l0_1.length c0_1), (.slice A0_2 l0_2.length c0_2), (.slice A0_3 l0_3.length c0_3), (.slice A0_4 l0_4.length c0_4)] 28 (0, 0))) ∧ Aside0 (Below w.heap.size w w'))
   case atStart => exact ⟨(y388), (0), tQ, H', ⟨Nat.le_refl _⟩, ⟨kR HO390⟩, ⟨kK BK385⟩, ⟨kB1 HB GE385⟩⟩
   case round =>
    clear H'
    obtain ⟨x6_2, x7_2, rfl, HA, HK2, HO_6, BK385, HB⟩ := hrel
    cases gk with
    | zero => exact absurd HA.out (by simp [r08_Loads.l0])
    | succ k2 =>
     have H := HA.out
     clear HA
     simp only [r08_Loads.l0] at H
     by_cases c20 : x7_2 < (l0_0.length : Int)
     rotate_left
     ·rw [if_neg c20] at H
      have c20b0 : decide (x7_2 < (l0_0.length : Int)) = false := decide_eq_false c20
      clear c20
      simp only [Option.some.injEq, Prod.mk.injEq] at H
      obtain ⟨rfl, rfl⟩ := H
      obtain ⟨⟨_,_,_,_,_⟩,_,_,_,_,_⟩ := bx5 BK385
      go_wp2
      go_ret2
      exact ⟨_, tE, by (with_reducible repeat (first | apply Kd.R_alloc | apply Kd.R_drewN | apply Kd.R_drew)); exact HO_6.out, kB1 HB GE385⟩
     rw [if_pos c20] at H
     have c20b0 : decide (x7_2 < (l0_0.length : Int)) = true := decide_eq_true c20
     clear c20
     have H' := Aside0.mk H
     clear H
     obtain ⟨⟨_,_,_,_,_⟩,_,_,_,_,_⟩ := bx5 BK385
     go_wp2
     go_loopg [8] k2 (fun kq v8 w' => ∃ (x6_3 : List (S55)) (x8_3 : Int), v8 = .int .i64 x8_3 ∧ Aside0 (r08_Loads.l1 kq l1 x6_3 x7_2 x8_3 l0_0 l0_1 l0_2 l0_3 l0_4 = some (r1, r2)) ∧ Aside0 (kq ≤ k2) ∧ Aside0 (Kd.R k55 55 w' w.heap.size (fun _ => True) v389 x6_3) ∧ Aside0 (w'.heap[gb385]? = some (.cells #[(.slice A0_0 l0_0.length c0_0), (.slice A0_1 l0_1.length c0_1), (.slice A0_2 l0_2.length c0_2), (.slice A0_3 l0_3.length c0_3), (.slice A0_4 l0_4.length c0_4)] 28 (0, 0))) ∧ Aside0 (Below w.heap.size w w'))
     case atStart => exact ⟨(x6_2), (0), tQ, H', ⟨Nat.le_refl _⟩, ⟨kR HO_6⟩, ⟨kK BK385⟩, ⟨kB1 HB GE385⟩⟩
     case round =>
      clear H'
      obtain ⟨x6_3, x8_3, rfl, HA, HK3, HO_6, BK385, HB⟩ := hrel
      cases gk with
      | zero => exact absurd HA.out (by simp [r08_Loads.l1])
      | succ k3 =>
       have H := HA.out
       clear HA
       simp only [r08_Loads.l1] at H
       by_cases c22 : x8_3 < (l0_3.length : Int)
       rotate_left
       ·rw [if_neg c22] at H
        have c22b0 : decide (x8_3 < (l0_3.length : Int)) = false := decide_eq_false c22
        clear c22
        have H' := Aside0.mk H
        clear H
        obtain ⟨⟨_,_,_,_,_⟩,_,_,_,_,_⟩ := bx5 BK385
        go_wp2
        go_roundg k3
        case measure => have := HJ2.out; have := HK2.out; have := HK3.out; omega
        case rel => exact ⟨(x6_3), (wrap64 (x7_2 + 1)), tQ, H', ⟨kO3 HJ2 HK2 HK3⟩, ⟨kR HO_6⟩, ⟨kK BK385⟩, ⟨kB1 HB GE385⟩⟩
       rw [if_pos c22] at H
       have c22b0 : decide (x8_3 < (l0_3.length : Int)) = true := decide_eq_true c22
       clear c22
       have H' := Aside0.mk H
       clear H
       obtain ⟨⟨_,_,_,_,_⟩,_,_,_,_,_⟩ := bx5 BK385
       go_wp2
       go_loopg [9] k3 (fun kq v9 w' => ∃ (x6_4 : List (S55)) (x9_4 : Int), v9 = .int .i64 x9_4 ∧ Aside0 (r08_Loads.l2 kq l1 x6_4 x7_2 x8_3 x9_4 l0_0 l0_1 l0_2 l0_3 l0_4 = some (r1, r2)) ∧ Aside0 (kq ≤ k3) ∧ Aside0 (Kd.R k55 55 w' w.heap.size (fun _ => True) v389 x6_4) ∧ Aside0 (w'.heap[gb385]? = some (.cells #[(.slice A0_0 l0_0.length c0_0), (.slice A0_1 l0_1.length c0_1), (.slice A0_2 l0_2.length c0_2), (.slice A0_3 l0_3.length c0_3), (.slice A0_4 l0_4.length c0_4)] 28 (0, 0))) ∧ Aside0 (Below w.heap.size w w'))
       case atStart => exact ⟨(x6_3), (0), tQ, H', ⟨Nat.le_refl _⟩, ⟨kR HO_6⟩, ⟨kK BK385⟩, ⟨kB1 HB GE385⟩⟩
       case round =>
        clear H'
        obtain ⟨x6_4, x9_4, rfl, HA, HK4, HO_6, BK385, HB⟩ := hrel
        cases gk with
        | zero => exact absurd HA.out (by simp [r08_Loads.l2])
        | succ k4 =>
         have H := HA.out
         clear HA
         simp only [r08_Loads.l2] at H
         by_cases c24 : x9_4 < 3
         rotate_left
         ·rw [if_neg c24] at H
          have c24b0 : decide (x9_4 < 3) = false := decide_eq_false c24
          clear c24
          have H' := Aside0.mk H
          clear H
          go_wp2
          go_roundg k4
          case measure => have := HJ2.out; have := HK2.out; have := HK3.out; have := HK4.out; omega
          case rel => exact ⟨(x6_4), (wrap64 (x8_3 + 1)), tQ, H', ⟨kO4 HJ2 HK2 HK3 HK4⟩, ⟨kR HO_6⟩, ⟨kK BK385⟩, ⟨kB1 HB GE385⟩⟩
         rw [if_pos c24] at H
         have c24b0 : decide (x9_4 < 3) = true := decide_eq_true c24
         clear c24
         by_cases c25 : 0 ≤ x8_3
         rotate_left
         ·rw [if_neg c25] at H
          exact absurd H (by simp)
         rw [if_pos c25] at H
         have c25b0 : decide (0 ≤ x8_3) = true := decide_eq_true c25
         clear c25
         by_cases c26 : x8_3 < (l0_3.length : Int)
         rotate_left
         ·rw [if_neg c26] at H
          exact absurd H (by simp)
         rw [if_pos c26] at H
         have c26b0 : decide (x8_3 < (l0_3.length : Int)) = true := decide_eq_true c26
         clear c26
         replace H := Option.bind_eq_some_iff.mp H
         obtain ⟨t392, A270, H⟩ := H
         replace H : (if t392 = true then ((r08_On.f k4 l0_0 l0_1 l0_2 l0_3 l0_4 x7_2 ((rd_T42 l0_3 x8_3).f1)).bind fun t394 => (if t394 = true then (if 0 ≤ x7_2 then (if x7_2 < (x6_4.length : Int) then (if x9_4 = 0 then (if x8_3 < (l1.length : Int) then (r08_Loads.l2 k4 l1 (x6_4.set (x7_2 : Int).toNat (⟨wrap64 (((rd_T55 x6_4 x7_2).f0) + (rd l1 x8_3)), (rd_T55 x6_4 x7_2).f1, (rd_T55 x6_4 x7_2).f2⟩ : S55)) x7_2 x8_3 (wrap64 (x9_4 + 1)) l0_0 l0_1 l0_2 l0_3 l0_4) else (none)) else (if x9_4 = 1 then (if x8_3 < (l1.length : Int) then (r08_Loads.l2 k4 l1 (x6_4.set (x7_2 : Int).toNat (⟨(rd_T55 x6_4 x7_2).f0, wrap64 (((rd_T55 x6_4 x7_2).f1) + (rd l1 x8_3)), (rd_T55 x6_4 x7_2).f2⟩ : S55)) x7_2 x8_3 (wrap64 (x9_4 + 1)) l0_0 l0_1 l0_2 l0_3 l0_4) else (none)) else (if x9_4 = 2 then (if x8_3 < (l1.length : Int) then (r08_Loads.l2 k4 l1 (x6_4.set (x7_2 : Int).toNat (⟨(rd_T55 x6_4 x7_2).f0, (rd_T55 x6_4 x7_2).f1, wrap64 (((rd_T55 x6_4 x7_2).f2) + (rd l1 x8_3))⟩ : S55)) x7_2 x8_3 (wrap64 (x9_4 + 1)) l0_0 l0_1 l0_2 l0_3 l0_4) else (none)) else (none)))) else (none)) else (none)) else (r08_Loads.l2 k4 l1 x6_4 x7_2 x8_3 (wrap64 (x9_4 + 1)) l0_0 l0_1 l0_2 l0_3 l0_4))) else (r08_Loads.l2 k4 l1 x6_4 x7_2 x8_3 (wrap64 (x9_4 + 1)) l0_0 l0_1 l0_2 l0_3 l0_4)) = some (r1, r2) := H
         have A27 := Aside0.mk A270
         clear A270
         by_cases c28 : t392 = true
         rotate_left
         ·replace c28 := Bool.eq_false_iff.mpr c28
          subst c28
          replace H := ifF H
          have H' := Aside0.mk H
          clear H
          try go_wp2
          replace HO_6 := Aside0.mk (Kd.R_drew HO_6.out)
          replace BK385 := Aside0.mk (blk_drew BK385.out)
          replace HB := Aside0.mk (below_drew1 HB.out)
          have p391 : 0 ≤ (x8_3 : Int) := tD
          have q391 : x8_3 < (l0_3.length : Int) := tD
          obtain ⟨ad391, e391, hx391_0, hx391_1, hx391_2, hx391_3, hx391_4, hx391_5, hx391_6, hx391_7⟩ := at_T42 HR0_3.out x8_3 p391 q391
          have hw391_7 := hx391_7
          have hw391_6 := hx391_6
          have hw391_5 := hx391_5
          have hw391_4 := hx391_4
          have hw391_3 := hx391_3
          have hw391_2 := hx391_2
          have hw391_1 := hx391_1
          have hw391_0 := hx391_0
          cases e391
          replace hx391_0 := cB HB hx391_0
          replace hx391_1 := cB HB hx391_1
          replace hx391_2 := cB HB hx391_2
          replace hx391_3 := cB HB hx391_3
          replace hx391_4 := cB HB hx391_4
          replace hx391_5 := cB HB hx391_5
          replace hx391_6 := cB HB hx391_6
          replace hx391_7 := cB HB hx391_7
          replace p391 := eq_true p391
          replace q391 := eq_true q391
          refine start_ (n := 18) (S := fun w' => w'.cell? ⟨gb385, 0, none⟩ = some (.slice A0_0 l0_0.length c0_0) ∧ w'.cell? ⟨gb385, 1, none⟩ = some (.slice A0_1 l0_1.length c0_1) ∧ w'.cell? ⟨gb385, 2, none⟩ = some (.slice A0_2 l0_2.length c0_2) ∧ w'.cell? ⟨gb385, 3, none⟩ = some (.slice (some ad391) l0_3.length c0_3) ∧ w'.cell? ⟨gb385, 4, none⟩ = some (.slice A0_4 l0_4.length c0_4) ∧ w'.cell? (ad391.add ((x8_3).toNat * 8)) = some (.string ((rd_T42 l0_3 x8_3).f0)) ∧ w'.cell? ⟨(ad391.add ((x8_3).toNat * 8)).block, (ad391.add ((x8_3).toNat * 8)).off + 1, none⟩ = some (.int .i64 ((rd_T42 l0_3 x8_3).f1)) ∧ w'.cell? ⟨(ad391.add ((x8_3).toNat * 8)).block, (ad391.add ((x8_3).toNat * 8)).off + 2, none⟩ = some (.int .i64 ((rd_T42 l0_3 x8_3).f2)) ∧ w'.cell? ⟨(ad391.add ((x8_3).toNat * 8)).block, (ad391.add ((x8_3).toNat * 8)).off + 3, none⟩ = some (.int .i64 ((rd_T42 l0_3 x8_3).f3)) ∧ w'.cell? ⟨(ad391.add ((x8_3).toNat * 8)).block, (ad391.add ((x8_3).toNat * 8)).off + 4, none⟩ = some (.int .i64 ((rd_T42 l0_3 x8_3).f4)) ∧ w'.cell? ⟨(ad391.add ((x8_3).toNat * 8)).block, (ad391.add ((x8_3).toNat * 8)).off + 5, none⟩ = some (.int .i64 ((rd_T42 l0_3 x8_3).f5)) ∧ w'.cell? ⟨(ad391.add ((x8_3).toNat * 8)).block, (ad391.add ((x8_3).toNat * 8)).off + 6, none⟩ = some (.int .i64 ((rd_T42 l0_3 x8_3).f6)) ∧ w'.cell? ⟨(ad391.add ((x8_3).toNat * 8)).block, (ad391.add ((x8_3).toNat * 8)).off + 7, none⟩ = some (.int .i64 ((rd_T42 l0_3 x8_3).f7))) (ds := []) #[false, false, false, false, false, false, false, false, false, false, false, false, false, false, false, false, false, false] (by kernel_rfl) rfl rfl ⟨(blk_cell BK385.out 0).trans rfl, (blk_cell BK385.out 1).trans rfl, (blk_cell BK385.out 2).trans rfl, (blk_cell BK385.out 3).trans rfl, (blk_cell BK385.out 4).trans rfl, ((HB.out.cell (World.block_lt_of_cell? w _ hw391_0)).trans hw391_0), ((HB.out.cell (World.block_lt_of_cell? w _ hw391_1)).trans hw391_1), ((HB.out.cell (World.block_lt_of_cell? w _ hw391_2)).trans hw391_2), ((HB.out.cell (World.block_lt_of_cell? w _ hw391_3)).trans hw391_3), ((HB.out.cell (World.block_lt_of_cell? w _ hw391_4)).trans hw391_4), ((HB.out.cell (World.block_lt_of_cell? w _ hw391_5)).trans hw391_5), ((HB.out.cell (World.block_lt_of_cell? w _ hw391_6)).trans hw391_6), ((HB.out.cell (World.block_lt_of_cell? w _ hw391_7)).trans hw391_7)⟩ (fun hHeld => ?_); refine with_tabW r08_Loads.tab13 r08_Loads.bits13 (fun HT_ HW_ => ?_)
          generalize wr.drew = w63 at HO_6 BK385 HB hx391_0 hx391_1 hx391_2 hx391_3 hx391_4 hx391_5 hx391_6 hx391_7 hHeld ⊢
          refine pS 0 (some 41) HT_ ?_
          refine pS 2 (some 43) HT_ ?_
          refine pS 5 (some 46) HT_ ?_
          refine tS 1 (some 42) HT_ HW_ hHeld ?_
          refine pS 3 (some 44) HT_ ?_
          refine tS 4 (some 45) HT_ HW_ hHeld ?_
          refine oS 6 (some 47) HT_ (fun K hK => ?_)
          refine goes_ Try.func34 (by kernel_rfl) rfl #[.agg #[.string ((rd_T42 l0_3 x8_3).f0), .int .i64 ((rd_T42 l0_3 x8_3).f1), .int .i64 ((rd_T42 l0_3 x8_3).f2), .int .i64 ((rd_T42 l0_3 x8_3).f3), .int .i64 ((rd_T42 l0_3 x8_3).f4), .int .i64 ((rd_T42 l0_3 x8_3).f5), .int .i64 ((rd_T42 l0_3 x8_3).f6), .int .i64 ((rd_T42 l0_3 x8_3).f7)], .int .i64 x9_4] (by rfl) rfl rfl tL ?_
          with_reducible refine (r08_Uses.calls ((rd_T42 l0_3 x8_3).f0) ((rd_T42 l0_3 x8_3).f1) ((rd_T42 l0_3 x8_3).f2) ((rd_T42 l0_3 x8_3).f3) ((rd_T42 l0_3 x8_3).f4) ((rd_T42 l0_3 x8_3).f5) ((rd_T42 l0_3 x8_3).f6) ((rd_T42 l0_3 x8_3).f7) x9_4 false _ A27.out).mono ?_
          rintro e w64 ⟨rfl, hb⟩
          refine ⟨_, rfl, ?_⟩
          replace HO_6 := Aside0.mk (Kd.R_below (kR HO_6) hb)
          replace BK385 := bK BK385 hb
          replace HB := bS (kB1 HB GE385) hb
          (try clear hb)
          (try clear hb2)
          (try clear hk)
          (try clear hi)
          refine hK.out _ _ ⟨(blk_cell BK385.out 0).trans rfl, (blk_cell BK385.out 1).trans rfl, (blk_cell BK385.out 2).trans rfl, (blk_cell BK385.out 3).trans rfl, (blk_cell BK385.out 4).trans rfl, ((HB.out.cell (World.block_lt_of_cell? w _ hw391_0)).trans hw391_0), ((HB.out.cell (World.block_lt_of_cell? w _ hw391_1)).trans hw391_1), ((HB.out.cell (World.block_lt_of_cell? w _ hw391_2)).trans hw391_2), ((HB.out.cell (World.block_lt_of_cell? w _ hw391_3)).trans hw391_3), ((HB.out.cell (World.block_lt_of_cell? w _ hw391_4)).trans hw391_4), ((HB.out.cell (World.block_lt_of_cell? w _ hw391_5)).trans hw391_5), ((HB.out.cell (World.block_lt_of_cell? w _ hw391_6)).trans hw391_6), ((HB.out.cell (World.block_lt_of_cell? w _ hw391_7)).trans hw391_7)⟩ (fun hHeld => ?_)
          clear hK K
          refine norm_ (a' := ?_) ?_ ?_
          rotate_left
          ·show Act.put _ (some 47) _ = _
           simp only [Act.put, List.setIfInBounds_toArray, List.set_cons_zero, List.set_cons_succ, i64_w, i32_w]
           rfl
          refine pS 7 (some 48) HT_ ?_
          refine uS 8 (some 49) HT_ ?_
          refine uS 9 (some 50) HT_ ?_
          refine uS 10 (some 51) HT_ ?_
          refine uS 11 (some 52) HT_ ?_
          refine uS 12 (some 53) HT_ ?_
          refine uS 13 (some 54) HT_ ?_
          refine uS 14 (some 55) HT_ ?_
          refine uS 15 (some 56) HT_ ?_
          refine uS 16 (some 57) HT_ ?_
          refine pS 17 (some 58) HT_ ?_
          refine done_ (done_of HT_.out (by kernel_rfl)) ?_
          try go_wp2
          go_roundg k4
          case measure => have := HJ2.out; have := HK2.out; have := HK3.out; have := HK4.out; omega
          case rel => exact ⟨(x6_4), (wrap64 (x9_4 + 1)), tQ, H', ⟨kO4 HJ2 HK2 HK3 HK4⟩, ⟨kR HO_6⟩, ⟨kK BK385⟩, ⟨kB1 HB GE385⟩⟩
         subst c28
         replace H := ifT H
         replace H := Option.bind_eq_some_iff.mp H
         obtain ⟨t394, A290, H⟩ := H
         replace H : (if t394 = true then (if 0 ≤ x7_2 then (if x7_2 < (x6_4.length : Int) then (if x9_4 = 0 then (if x8_3 < (l1.length : Int) then (r08_Loads.l2 k4 l1 (x6_4.set (x7_2 : Int).toNat (⟨wrap64 (((rd_T55 x6_4 x7_2).f0) + (rd l1 x8_3)), (rd_T55 x6_4 x7_2).f1, (rd_T55 x6_4 x7_2).f2⟩ : S55)) x7_2 x8_3 (wrap64 (x9_4 + 1)) l0_0 l0_1 l0_2 l0_3 l0_4) else (none)) else (if x9_4 = 1 then (if x8_3 < (l1.length : Int) then (r08_Loads.l2 k4 l1 (x6_4.set (x7_2 : Int).toNat (⟨(rd_T55 x6_4 x7_2).f0, wrap64 (((rd_T55 x6_4 x7_2).f1) + (rd l1 x8_3)), (rd_T55 x6_4 x7_2).f2⟩ : S55)) x7_2 x8_3 (wrap64 (x9_4 + 1)) l0_0 l0_1 l0_2 l0_3 l0_4) else (none)) else (if x9_4 = 2 then (if x8_3 < (l1.length : Int) then (r08_Loads.l2 k4 l1 (x6_4.set (x7_2 : Int).toNat (⟨(rd_T55 x6_4 x7_2).f0, (rd_T55 x6_4 x7_2).f1, wrap64 (((rd_T55 x6_4 x7_2).f2) + (rd l1 x8_3))⟩ : S55)) x7_2 x8_3 (wrap64 (x9_4 + 1)) l0_0 l0_1 l0_2 l0_3 l0_4) else (none)) else (none)))) else (none)) else (none)) else (r08_Loads.l2 k4 l1 x6_4 x7_2 x8_3 (wrap64 (x9_4 + 1)) l0_0 l0_1 l0_2 l0_3 l0_4)) = some (r1, r2) := H
         have A29 := Aside0.mk A290
         clear A290
         by_cases c30 : t394 = true
         rotate_left
         ·replace c30 := Bool.eq_false_iff.mpr c30
          subst c30
          replace H := ifF H
          have H' := Aside0.mk H
          clear H
          try go_wp2
          replace HO_6 := Aside0.mk (Kd.R_drew HO_6.out)
          replace BK385 := Aside0.mk (blk_drew BK385.out)
          replace HB := Aside0.mk (below_drew1 HB.out)
          have p391 : 0 ≤ (x8_3 : Int) := tD
          have q391 : x8_3 < (l0_3.length : Int) := tD
          obtain ⟨ad391, e391, hx391_0, hx391_1, hx391_2, hx391_3, hx391_4, hx391_5, hx391_6, hx391_7⟩ := at_T42 HR0_3.out x8_3 p391 q391
          have hw391_7 := hx391_7
          have hw391_6 := hx391_6
          have hw391_5 := hx391_5
          have hw391_4 := hx391_4
          have hw391_3 := hx391_3
          have hw391_2 := hx391_2
          have hw391_1 := hx391_1
          have hw391_0 := hx391_0
          cases e391
          replace hx391_0 := cB HB hx391_0
          replace hx391_1 := cB HB hx391_1
          replace hx391_2 := cB HB hx391_2
          replace hx391_3 := cB HB hx391_3
          replace hx391_4 := cB HB hx391_4
          replace hx391_5 := cB HB hx391_5
          replace hx391_6 := cB HB hx391_6
          replace hx391_7 := cB HB hx391_7
          replace p391 := eq_true p391
          replace q391 := eq_true q391
          have p393 : 0 ≤ (x8_3 : Int) := tD
          have q393 : x8_3 < (l0_3.length : Int) := tD
          obtain ⟨ad393, e393, hx393_0, hx393_1, hx393_2, hx393_3, hx393_4, hx393_5, hx393_6, hx393_7⟩ := at_T42 HR0_3.out x8_3 p393 q393
          have hw393_7 := hx393_7
          have hw393_6 := hx393_6
          have hw393_5 := hx393_5
          have hw393_4 := hx393_4
          have hw393_3 := hx393_3
          have hw393_2 := hx393_2
          have hw393_1 := hx393_1
          have hw393_0 := hx393_0
          obtain rfl : ad391 = ad393 := (by injection e393)
          replace hx393_0 := cB HB hx393_0
          replace hx393_1 := cB HB hx393_1
          replace hx393_2 := cB HB hx393_2
          replace hx393_3 := cB HB hx393_3
          replace hx393_4 := cB HB hx393_4
          replace hx393_5 := cB HB hx393_5
          replace hx393_6 := cB HB hx393_6
          replace hx393_7 := cB HB hx393_7
          replace p393 := eq_true p393
          replace q393 := eq_true q393
          refine start_ (n := 18) (S := fun w' => w'.cell? ⟨gb385, 0, none⟩ = some (.slice A0_0 l0_0.length c0_0) ∧ w'.cell? ⟨gb385, 1, none⟩ = some (.slice A0_1 l0_1.length c0_1) ∧ w'.cell? ⟨gb385, 2, none⟩ = some (.slice A0_2 l0_2.length c0_2) ∧ w'.cell? ⟨gb385, 3, none⟩ = some (.slice (some ad391) l0_3.length c0_3) ∧ w'.cell? ⟨gb385, 4, none⟩ = some (.slice A0_4 l0_4.length c0_4) ∧ w'.cell? (ad391.add ((x8_3).toNat * 8)) = some (.string ((rd_T42 l0_3 x8_3).f0)) ∧ w'.cell? ⟨(ad391.add ((x8_3).toNat * 8)).block, (ad391.add ((x8_3).toNat * 8)).off + 1, none⟩ = some (.int .i64 ((rd_T42 l0_3 x8_3).f1)) ∧ w'.cell? ⟨(ad391.add ((x8_3).toNat * 8)).block, (ad391.add ((x8_3).toNat * 8)).off + 2, none⟩ = some (.int .i64 ((rd_T42 l0_3 x8_3).f2)) ∧ w'.cell? ⟨(ad391.add ((x8_3).toNat * 8)).block, (ad391.add ((x8_3).toNat * 8)).off + 3, none⟩ = some (.int .i64 ((rd_T42 l0_3 x8_3).f3)) ∧ w'.cell? ⟨(ad391.add ((x8_3).toNat * 8)).block, (ad391.add ((x8_3).toNat * 8)).off + 4, none⟩ = some (.int .i64 ((rd_T42 l0_3 x8_3).f4)) ∧ w'.cell? ⟨(ad391.add ((x8_3).toNat * 8)).block, (ad391.add ((x8_3).toNat * 8)).off + 5, none⟩ = some (.int .i64 ((rd_T42 l0_3 x8_3).f5)) ∧ w'.cell? ⟨(ad391.add ((x8_3).toNat * 8)).block, (ad391.add ((x8_3).toNat * 8)).off + 6, none⟩ = some (.int .i64 ((rd_T42 l0_3 x8_3).f6)) ∧ w'.cell? ⟨(ad391.add ((x8_3).toNat * 8)).block, (ad391.add ((x8_3).toNat * 8)).off + 7, none⟩ = some (.int .i64 ((rd_T42 l0_3 x8_3).f7)) ∧ w'.cell? (ad391.add ((x8_3).toNat * 8)) = some (.string ((rd_T42 l0_3 x8_3).f0)) ∧ w'.cell? ⟨(ad391.add ((x8_3).toNat * 8)).block, (ad391.add ((x8_3).toNat * 8)).off + 1, none⟩ = some (.int .i64 ((rd_T42 l0_3 x8_3).f1)) ∧ w'.cell? ⟨(ad391.add ((x8_3).toNat * 8)).block, (ad391.add ((x8_3).toNat * 8)).off + 2, none⟩ = some (.int .i64 ((rd_T42 l0_3 x8_3).f2)) ∧ w'.cell? ⟨(ad391.add ((x8_3).toNat * 8)).block, (ad391.add ((x8_3).toNat * 8)).off + 3, none⟩ = some (.int .i64 ((rd_T42 l0_3 x8_3).f3)) ∧ w'.cell? ⟨(ad391.add ((x8_3).toNat * 8)).block, (ad391.add ((x8_3).toNat * 8)).off + 4, none⟩ = some (.int .i64 ((rd_T42 l0_3 x8_3).f4)) ∧ w'.cell? ⟨(ad391.add ((x8_3).toNat * 8)).block, (ad391.add ((x8_3).toNat * 8)).off + 5, none⟩ = some (.int .i64 ((rd_T42 l0_3 x8_3).f5)) ∧ w'.cell? ⟨(ad391.add ((x8_3).toNat * 8)).block, (ad391.add ((x8_3).toNat * 8)).off + 6, none⟩ = some (.int .i64 ((rd_T42 l0_3 x8_3).f6)) ∧ w'.cell? ⟨(ad391.add ((x8_3).toNat * 8)).block, (ad391.add ((x8_3).toNat * 8)).off + 7, none⟩ = some (.int .i64 ((rd_T42 l0_3 x8_3).f7))) (ds := []) #[false, false, false, false, false, false, false, false, false, false, false, false, false, false, false, false, false, false] (by kernel_rfl) rfl rfl ⟨(blk_cell BK385.out 0).trans rfl, (blk_cell BK385.out 1).trans rfl, (blk_cell BK385.out 2).trans rfl, (blk_cell BK385.out 3).trans rfl, (blk_cell BK385.out 4).trans rfl, ((HB.out.cell (World.block_lt_of_cell? w _ hw391_0)).trans hw391_0), ((HB.out.cell (World.block_lt_of_cell? w _ hw391_1)).trans hw391_1), ((HB.out.cell (World.block_lt_of_cell? w _ hw391_2)).trans hw391_2), ((HB.out.cell (World.block_lt_of_cell? w _ hw391_3)).trans hw391_3), ((HB.out.cell (World.block_lt_of_cell? w _ hw391_4)).trans hw391_4), ((HB.out.cell (World.block_lt_of_cell? w _ hw391_5)).trans hw391_5), ((HB.out.cell (World.block_lt_of_cell? w _ hw391_6)).trans hw391_6), ((HB.out.cell (World.block_lt_of_cell? w _ hw391_7)).trans hw391_7), ((HB.out.cell (World.block_lt_of_cell? w _ hw393_0)).trans hw393_0), ((HB.out.cell (World.block_lt_of_cell? w _ hw393_1)).trans hw393_1), ((HB.out.cell (World.block_lt_of_cell? w _ hw393_2)).trans hw393_2), ((HB.out.cell (World.block_lt_of_cell? w _ hw393_3)).trans hw393_3), ((HB.out.cell (World.block_lt_of_cell? w _ hw393_4)).trans hw393_4), ((HB.out.cell (World.block_lt_of_cell? w _ hw393_5)).trans hw393_5), ((HB.out.cell (World.block_lt_of_cell? w _ hw393_6)).trans hw393_6), ((HB.out.cell (World.block_lt_of_cell? w _ hw393_7)).trans hw393_7)⟩ (fun hHeld => ?_); refine with_tabW r08_Loads.tab13 r08_Loads.bits13 (fun HT_ HW_ => ?_)
          generalize wr.drew = w60 at HO_6 BK385 HB hx391_0 hx391_1 hx391_2 hx391_3 hx391_4 hx391_5 hx391_6 hx391_7 hx393_0 hx393_1 hx393_2 hx393_3 hx393_4 hx393_5 hx393_6 hx393_7 hHeld ⊢
          refine pS 0 (some 41) HT_ ?_
          refine pS 2 (some 43) HT_ ?_
          refine pS 5 (some 46) HT_ ?_
          refine tS 1 (some 42) HT_ HW_ hHeld ?_
          refine pS 3 (some 44) HT_ ?_
          refine tS 4 (some 45) HT_ HW_ hHeld ?_
          refine oS 6 (some 47) HT_ (fun K hK => ?_)
          refine goes_ Try.func34 (by kernel_rfl) rfl #[.agg #[.string ((rd_T42 l0_3 x8_3).f0), .int .i64 ((rd_T42 l0_3 x8_3).f1), .int .i64 ((rd_T42 l0_3 x8_3).f2), .int .i64 ((rd_T42 l0_3 x8_3).f3), .int .i64 ((rd_T42 l0_3 x8_3).f4), .int .i64 ((rd_T42 l0_3 x8_3).f5), .int .i64 ((rd_T42 l0_3 x8_3).f6), .int .i64 ((rd_T42 l0_3 x8_3).f7)], .int .i64 x9_4] (by rfl) rfl rfl tL ?_
          with_reducible refine (r08_Uses.calls ((rd_T42 l0_3 x8_3).f0) ((rd_T42 l0_3 x8_3).f1) ((rd_T42 l0_3 x8_3).f2) ((rd_T42 l0_3 x8_3).f3) ((rd_T42 l0_3 x8_3).f4) ((rd_T42 l0_3 x8_3).f5) ((rd_T42 l0_3 x8_3).f6) ((rd_T42 l0_3 x8_3).f7) x9_4 true _ A27.out).mono ?_
          rintro e w61 ⟨rfl, hb⟩
          refine ⟨_, rfl, ?_⟩
          replace HO_6 := Aside0.mk (Kd.R_below (kR HO_6) hb)
          replace BK385 := bK BK385 hb
          replace HB := bS (kB1 HB GE385) hb
          (try clear hb)
          (try clear hb2)
          (try clear hk)
          (try clear hi)
          refine hK.out _ _ ⟨(blk_cell BK385.out 0).trans rfl, (blk_cell BK385.out 1).trans rfl, (blk_cell BK385.out 2).trans rfl, (blk_cell BK385.out 3).trans rfl, (blk_cell BK385.out 4).trans rfl, ((HB.out.cell (World.block_lt_of_cell? w _ hw391_0)).trans hw391_0), ((HB.out.cell (World.block_lt_of_cell? w _ hw391_1)).trans hw391_1), ((HB.out.cell (World.block_lt_of_cell? w _ hw391_2)).trans hw391_2), ((HB.out.cell (World.block_lt_of_cell? w _ hw391_3)).trans hw391_3), ((HB.out.cell (World.block_lt_of_cell? w _ hw391_4)).trans hw391_4), ((HB.out.cell (World.block_lt_of_cell? w _ hw391_5)).trans hw391_5), ((HB.out.cell (World.block_lt_of_cell? w _ hw391_6)).trans hw391_6), ((HB.out.cell (World.block_lt_of_cell? w _ hw391_7)).trans hw391_7), ((HB.out.cell (World.block_lt_of_cell? w _ hw393_0)).trans hw393_0), ((HB.out.cell (World.block_lt_of_cell? w _ hw393_1)).trans hw393_1), ((HB.out.cell (World.block_lt_of_cell? w _ hw393_2)).trans hw393_2), ((HB.out.cell (World.block_lt_of_cell? w _ hw393_3)).trans hw393_3), ((HB.out.cell (World.block_lt_of_cell? w _ hw393_4)).trans hw393_4), ((HB.out.cell (World.block_lt_of_cell? w _ hw393_5)).trans hw393_5), ((HB.out.cell (World.block_lt_of_cell? w _ hw393_6)).trans hw393_6), ((HB.out.cell (World.block_lt_of_cell? w _ hw393_7)).trans hw393_7)⟩ (fun hHeld => ?_)
          clear hK K
          refine norm_ (a' := ?_) ?_ ?_
          rotate_left
          ·show Act.put _ (some 47) _ = _
           simp only [Act.put, List.setIfInBounds_toArray, List.set_cons_zero, List.set_cons_succ, i64_w, i32_w]
           rfl
          refine pS 7 (some 48) HT_ ?_
          refine pS 9 (some 50) HT_ ?_
          refine pS 10 (some 51) HT_ ?_
          refine pS 12 (some 53) HT_ ?_
          refine tS 8 (some 49) HT_ HW_ hHeld ?_
          refine tS 11 (some 52) HT_ HW_ hHeld ?_
          refine pS 13 (some 54) HT_ ?_
          refine pS 14 (some 55) HT_ ?_
          refine tS 15 (some 56) HT_ HW_ hHeld ?_
          refine oS 16 (some 57) HT_ (fun K hK => ?_)
          refine goes_ Try.func35 (by kernel_rfl) rfl #[.agg #[.slice A0_0 l0_0.length c0_0, .slice A0_1 l0_1.length c0_1, .slice A0_2 l0_2.length c0_2, .slice (some ad391) l0_3.length c0_3, .slice A0_4 l0_4.length c0_4], .int .i64 x7_2, .int .i64 ((rd_T42 l0_3 x8_3).f1)] (by rfl) rfl rfl tL ?_
          with_reducible refine (r08_On.calls k4 _ _ l0_0 _ _ l0_1 _ _ l0_2 _ _ l0_3 _ _ l0_4 x7_2 ((rd_T42 l0_3 x8_3).f1) false _ (sC HR0_0 HB) HC0_0.out (sC HR0_1 HB) HC0_1.out (sC HR0_2 HB) HC0_2.out (sC HR0_3 HB) HC0_3.out (sC HR0_4 HB) HC0_4.out A29.out).mono ?_
          rintro e w62 ⟨rfl, hb⟩
          refine ⟨_, rfl, ?_⟩
          replace HO_6 := Aside0.mk (Kd.R_below (kR HO_6) hb)
          replace BK385 := bK BK385 hb
          replace HB := bS (kB1 HB GE385) hb
          (try clear hb)
          (try clear hb2)
          (try clear hk)
          (try clear hi)
          refine hK.out _ _ ⟨(blk_cell BK385.out 0).trans rfl, (blk_cell BK385.out 1).trans rfl, (blk_cell BK385.out 2).trans rfl, (blk_cell BK385.out 3).trans rfl, (blk_cell BK385.out 4).trans rfl, ((HB.out.cell (World.block_lt_of_cell? w _ hw391_0)).trans hw391_0), ((HB.out.cell (World.block_lt_of_cell? w _ hw391_1)).trans hw391_1), ((HB.out.cell (World.block_lt_of_cell? w _ hw391_2)).trans hw391_2), ((HB.out.cell (World.block_lt_of_cell? w _ hw391_3)).trans hw391_3), ((HB.out.cell (World.block_lt_of_cell? w _ hw391_4)).trans hw391_4), ((HB.out.cell (World.block_lt_of_cell? w _ hw391_5)).trans hw391_5), ((HB.out.cell (World.block_lt_of_cell? w _ hw391_6)).trans hw391_6), ((HB.out.cell (World.block_lt_of_cell? w _ hw391_7)).trans hw391_7), ((HB.out.cell (World.block_lt_of_cell? w _ hw393_0)).trans hw393_0), ((HB.out.cell (World.block_lt_of_cell? w _ hw393_1)).trans hw393_1), ((HB.out.cell (World.block_lt_of_cell? w _ hw393_2)).trans hw393_2), ((HB.out.cell (World.block_lt_of_cell? w _ hw393_3)).trans hw393_3), ((HB.out.cell (World.block_lt_of_cell? w _ hw393_4)).trans hw393_4), ((HB.out.cell (World.block_lt_of_cell? w _ hw393_5)).trans hw393_5), ((HB.out.cell (World.block_lt_of_cell? w _ hw393_6)).trans hw393_6), ((HB.out.cell (World.block_lt_of_cell? w _ hw393_7)).trans hw393_7)⟩ (fun hHeld => ?_)
          clear hK K
          refine norm_ (a' := ?_) ?_ ?_
          rotate_left
          ·show Act.put _ (some 57) _ = _
           simp only [Act.put, List.setIfInBounds_toArray, List.set_cons_zero, List.set_cons_succ, i64_w, i32_w]
           rfl
          refine pS 17 (some 58) HT_ ?_
          refine done_ (done_of HT_.out (by kernel_rfl)) ?_
          try go_wp2
          go_roundg k4
          case measure => have := HJ2.out; have := HK2.out; have := HK3.out; have := HK4.out; omega
          case rel => exact ⟨(x6_4), (wrap64 (x9_4 + 1)), tQ, H', ⟨kO4 HJ2 HK2 HK3 HK4⟩, ⟨kR HO_6⟩, ⟨kK BK385⟩, ⟨kB1 HB GE385⟩⟩
         subst c30
         replace H := ifT H
         by_cases c31 : 0 ≤ x7_2
         rotate_left
         ·rw [if_neg c31] at H
          exact absurd H (by simp)
         rw [if_pos c31] at H
         have c31b0 : decide (0 ≤ x7_2) = true := decide_eq_true c31
         clear c31
         by_cases c32 : x7_2 < (x6_4.length : Int)
         rotate_left
         ·rw [if_neg c32] at H
          exact absurd H (by simp)
         rw [if_pos c32] at H
         have c32b0 : decide (x7_2 < (x6_4.length : Int)) = true := decide_eq_true c32
         clear c32
         by_cases c33 : x9_4 = 0
         ·rw [if_pos c33] at H
          have c33b0 : (x9_4 == 0) = true := beq_iff_eq.mpr c33
          have c33b1 : (x9_4 != 0) = false := bne_eq_false_iff_eq.mpr c33
          have c33b2 : ∀ (a_ : Addr) (W_ : World), (Instr.indexAt 55 (.pointer (some a_)) (.int .i64 x9_4)).run Try.prog W_ = .ok (.pointer (some (a_.add 0))) W_ := fun a_ W_ => ix_arr Try.underlying55 (fun W_ => by go_simp) 0 (by decide) x9_4 c33 a_ W_
          clear c33
          by_cases c34 : x8_3 < (l1.length : Int)
          rotate_left
          ·rw [if_neg c34] at H
           exact absurd H (by simp)
          rw [if_pos c34] at H
          have c34b0 : decide (x8_3 < (l1.length : Int)) = true := decide_eq_true c34
          clear c34
          obtain ⟨y397, hy397⟩ : ∃ y_ : List (S55), y_ = (x6_4.set (x7_2 : Int).toNat (⟨wrap64 (((rd_T55 x6_4 x7_2).f0) + (rd l1 x8_3)), (rd_T55 x6_4 x7_2).f1, (rd_T55 x6_4 x7_2).f2⟩ : S55)) := ⟨_, rfl⟩
          replace H : (r08_Loads.l2 k4 l1 y397 x7_2 x8_3 (wrap64 (x9_4 + 1)) l0_0 l0_1 l0_2 l0_3 l0_4) = some (r1, r2) := by first | (rw [hy397]; with_reducible exact H) | (have H2_ := (Option.bind_some _ _).symm.trans H; rw [hy397]; with_reducible exact H2_) | (have H2_ := (Option.bind_some _ _).symm.trans H; with_reducible exact H2_) | with_reducible exact H | (rw [hy397]; exact H) | exact H
          have Ny397 := Aside0.mk hy397
          clear hy397
          have H' := Aside0.mk H
          clear H
          try go_wp2
          replace HO_6 := Aside0.mk (Kd.R_drew HO_6.out)
          replace BK385 := Aside0.mk (blk_drew BK385.out)
          replace HB := Aside0.mk (below_drew1 HB.out)
          have p391 : 0 ≤ (x8_3 : Int) := tD
          have q391 : x8_3 < (l0_3.length : Int) := tD
          obtain ⟨ad391, e391, hx391_0, hx391_1, hx391_2, hx391_3, hx391_4, hx391_5, hx391_6, hx391_7⟩ := at_T42 HR0_3.out x8_3 p391 q391
          have hw391_7 := hx391_7
          have hw391_6 := hx391_6
          have hw391_5 := hx391_5
          have hw391_4 := hx391_4
          have hw391_3 := hx391_3
          have hw391_2 := hx391_2
          have hw391_1 := hx391_1
          have hw391_0 := hx391_0
          cases e391
          replace hx391_0 := cB HB hx391_0
          replace hx391_1 := cB HB hx391_1
          replace hx391_2 := cB HB hx391_2
          replace hx391_3 := cB HB hx391_3
          replace hx391_4 := cB HB hx391_4
          replace hx391_5 := cB HB hx391_5
          replace hx391_6 := cB HB hx391_6
          replace hx391_7 := cB HB hx391_7
          replace p391 := eq_true p391
          replace q391 := eq_true q391
          have p393 : 0 ≤ (x8_3 : Int) := tD
          have q393 : x8_3 < (l0_3.length : Int) := tD
          obtain ⟨ad393, e393, hx393_0, hx393_1, hx393_2, hx393_3, hx393_4, hx393_5, hx393_6, hx393_7⟩ := at_T42 HR0_3.out x8_3 p393 q393
          have hw393_7 := hx393_7
          have hw393_6 := hx393_6
          have hw393_5 := hx393_5
          have hw393_4 := hx393_4
          have hw393_3 := hx393_3
          have hw393_2 := hx393_2
          have hw393_1 := hx393_1
          have hw393_0 := hx393_0
          obtain rfl : ad391 = ad393 := (by injection e393)
          replace hx393_0 := cB HB hx393_0
          replace hx393_1 := cB HB hx393_1
          replace hx393_2 := cB HB hx393_2
          replace hx393_3 := cB HB hx393_3
          replace hx393_4 := cB HB hx393_4
          replace hx393_5 := cB HB hx393_5
          replace hx393_6 := cB HB hx393_6
          replace hx393_7 := cB HB hx393_7
          replace p393 := eq_true p393
          replace q393 := eq_true q393
          refine start_ (n := 18) (S := fun w' => w'.cell? ⟨gb385, 0, none⟩ = some (.slice A0_0 l0_0.length c0_0) ∧ w'.cell? ⟨gb385, 1, none⟩ = some (.slice A0_1 l0_1.length c0_1) ∧ w'.cell? ⟨gb385, 2, none⟩ = some (.slice A0_2 l0_2.length c0_2) ∧ w'.cell? ⟨gb385, 3, none⟩ = some (.slice (some ad391) l0_3.length c0_3) ∧ w'.cell? ⟨gb385, 4, none⟩ = some (.slice A0_4 l0_4.length c0_4) ∧ w'.cell? (ad391.add ((x8_3).toNat * 8)) = some (.string ((rd_T42 l0_3 x8_3).f0)) ∧ w'.cell? ⟨(ad391.add ((x8_3).toNat * 8)).block, (ad391.add ((x8_3).toNat * 8)).off + 1, none⟩ = some (.int .i64 ((rd_T42 l0_3 x8_3).f1)) ∧ w'.cell? ⟨(ad391.add ((x8_3).toNat * 8)).block, (ad391.add ((x8_3).toNat * 8)).off + 2, none⟩ = some (.int .i64 ((rd_T42 l0_3 x8_3).f2)) ∧ w'.cell? ⟨(ad391.add ((x8_3).toNat * 8)).block, (ad391.add ((x8_3).toNat * 8)).off + 3, none⟩ = some (.int .i64 ((rd_T42 l0_3 x8_3).f3)) ∧ w'.cell? ⟨(ad391.add ((x8_3).toNat * 8)).block, (ad391.add ((x8_3).toNat * 8)).off + 4, none⟩ = some (.int .i64 ((rd_T42 l0_3 x8_3).f4)) ∧ w'.cell? ⟨(ad391.add ((x8_3).toNat * 8)).block, (ad391.add ((x8_3).toNat * 8)).off + 5, none⟩ = some (.int .i64 ((rd_T42 l0_3 x8_3).f5)) ∧ w'.cell? ⟨(ad391.add ((x8_3).toNat * 8)).block, (ad391.add ((x8_3).toNat * 8)).off + 6, none⟩ = some (.int .i64 ((rd_T42 l0_3 x8_3).f6)) ∧ w'.cell? ⟨(ad391.add ((x8_3).toNat * 8)).block, (ad391.add ((x8_3).toNat * 8)).off + 7, none⟩ = some (.int .i64 ((rd_T42 l0_3 x8_3).f7)) ∧ w'.cell? (ad391.add ((x8_3).toNat * 8)) = some (.string ((rd_T42 l0_3 x8_3).f0)) ∧ w'.cell? ⟨(ad391.add ((x8_3).toNat * 8)).block, (ad391.add ((x8_3).toNat * 8)).off + 1, none⟩ = some (.int .i64 ((rd_T42 l0_3 x8_3).f1)) ∧ w'.cell? ⟨(ad391.add ((x8_3).toNat * 8)).block, (ad391.add ((x8_3).toNat * 8)).off + 2, none⟩ = some (.int .i64 ((rd_T42 l0_3 x8_3).f2)) ∧ w'.cell? ⟨(ad391.add ((x8_3).toNat * 8)).block, (ad391.add ((x8_3).toNat * 8)).off + 3, none⟩ = some (.int .i64 ((rd_T42 l0_3 x8_3).f3)) ∧ w'.cell? ⟨(ad391.add ((x8_3).toNat * 8)).block, (ad391.add ((x8_3).toNat * 8)).off + 4, none⟩ = some (.int .i64 ((rd_T42 l0_3 x8_3).f4)) ∧ w'.cell? ⟨(ad391.add ((x8_3).toNat * 8)).block, (ad391.add ((x8_3).toNat * 8)).off + 5, none⟩ = some (.int .i64 ((rd_T42 l0_3 x8_3).f5)) ∧ w'.cell? ⟨(ad391.add ((x8_3).toNat * 8)).block, (ad391.add ((x8_3).toNat * 8)).off + 6, none⟩ = some (.int .i64 ((rd_T42 l0_3 x8_3).f6)) ∧ w'.cell? ⟨(ad391.add ((x8_3).toNat * 8)).block, (ad391.add ((x8_3).toNat * 8)).off + 7, none⟩ = some (.int .i64 ((rd_T42 l0_3 x8_3).f7))) (ds := []) #[false, false, false, false, false, false, false, false, false, false, false, false, false, false, false, false, false, false] (by kernel_rfl) rfl rfl ⟨(blk_cell BK385.out 0).trans rfl, (blk_cell BK385.out 1).trans rfl, (blk_cell BK385.out 2).trans rfl, (blk_cell BK385.out 3).trans rfl, (blk_cell BK385.out 4).trans rfl, ((HB.out.cell (World.block_lt_of_cell? w _ hw391_0)).trans hw391_0), ((HB.out.cell (World.block_lt_of_cell? w _ hw391_1)).trans hw391_1), ((HB.out.cell (World.block_lt_of_cell? w _ hw391_2)).trans hw391_2), ((HB.out.cell (World.block_lt_of_cell? w _ hw391_3)).trans hw391_3), ((HB.out.cell (World.block_lt_of_cell? w _ hw391_4)).trans hw391_4), ((HB.out.cell (World.block_lt_of_cell? w _ hw391_5)).trans hw391_5), ((HB.out.cell (World.block_lt_of_cell? w _ hw391_6)).trans hw391_6), ((HB.out.cell (World.block_lt_of_cell? w _ hw391_7)).trans hw391_7), ((HB.out.cell (World.block_lt_of_cell? w _ hw393_0)).trans hw393_0), ((HB.out.cell (World.block_lt_of_cell? w _ hw393_1)).trans hw393_1), ((HB.out.cell (World.block_lt_of_cell? w _ hw393_2)).trans hw393_2), ((HB.out.cell (World.block_lt_of_cell? w _ hw393_3)).trans hw393_3), ((HB.out.cell (World.block_lt_of_cell? w _ hw393_4)).trans hw393_4), ((HB.out.cell (World.block_lt_of_cell? w _ hw393_5)).trans hw393_5), ((HB.out.cell (World.block_lt_of_cell? w _ hw393_6)).trans hw393_6), ((HB.out.cell (World.block_lt_of_cell? w _ hw393_7)).trans hw393_7)⟩ (fun hHeld => ?_); refine with_tabW r08_Loads.tab13 r08_Loads.bits13 (fun HT_ HW_ => ?_)
          generalize wr.drew = w36 at HO_6 BK385 HB hx391_0 hx391_1 hx391_2 hx391_3 hx391_4 hx391_5 hx391_6 hx391_7 hx393_0 hx393_1 hx393_2 hx393_3 hx393_4 hx393_5 hx393_6 hx393_7 hHeld ⊢
          refine pS 0 (some 41) HT_ ?_
          refine pS 2 (some 43) HT_ ?_
          refine pS 5 (some 46) HT_ ?_
          refine tS 1 (some 42) HT_ HW_ hHeld ?_
          refine pS 3 (some 44) HT_ ?_
          refine tS 4 (some 45) HT_ HW_ hHeld ?_
          refine oS 6 (some 47) HT_ (fun K hK => ?_)
          refine goes_ Try.func34 (by kernel_rfl) rfl #[.agg #[.string ((rd_T42 l0_3 x8_3).f0), .int .i64 ((rd_T42 l0_3 x8_3).f1), .int .i64 ((rd_T42 l0_3 x8_3).f2), .int .i64 ((rd_T42 l0_3 x8_3).f3), .int .i64 ((rd_T42 l0_3 x8_3).f4), .int .i64 ((rd_T42 l0_3 x8_3).f5), .int .i64 ((rd_T42 l0_3 x8_3).f6), .int .i64 ((rd_T42 l0_3 x8_3).f7)], .int .i64 x9_4] (by rfl) rfl rfl tL ?_
          with_reducible refine (r08_Uses.calls ((rd_T42 l0_3 x8_3).f0) ((rd_T42 l0_3 x8_3).f1) ((rd_T42 l0_3 x8_3).f2) ((rd_T42 l0_3 x8_3).f3) ((rd_T42 l0_3 x8_3).f4) ((rd_T42 l0_3 x8_3).f5) ((rd_T42 l0_3 x8_3).f6) ((rd_T42 l0_3 x8_3).f7) x9_4 true _ A27.out).mono ?_
          rintro e w37 ⟨rfl, hb⟩
          refine ⟨_, rfl, ?_⟩
          replace HO_6 := Aside0.mk (Kd.R_below (kR HO_6) hb)
          replace BK385 := bK BK385 hb
          replace HB := bS (kB1 HB GE385) hb
          (try clear hb)
          (try clear hb2)
          (try clear hk)
          (try clear hi)
          refine hK.out _ _ ⟨(blk_cell BK385.out 0).trans rfl, (blk_cell BK385.out 1).trans rfl, (blk_cell BK385.out 2).trans rfl, (blk_cell BK385.out 3).trans rfl, (blk_cell BK385.out 4).trans rfl, ((HB.out.cell (World.block_lt_of_cell? w _ hw391_0)).trans hw391_0), ((HB.out.cell (World.block_lt_of_cell? w _ hw391_1)).trans hw391_1), ((HB.out.cell (World.block_lt_of_cell? w _ hw391_2)).trans hw391_2), ((HB.out.cell (World.block_lt_of_cell? w _ hw391_3)).trans hw391_3), ((HB.out.cell (World.block_lt_of_cell? w _ hw391_4)).trans hw391_4), ((HB.out.cell (World.block_lt_of_cell? w _ hw391_5)).trans hw391_5), ((HB.out.cell (World.block_lt_of_cell? w _ hw391_6)).trans hw391_6), ((HB.out.cell (World.block_lt_of_cell? w _ hw391_7)).trans hw391_7), ((HB.out.cell (World.block_lt_of_cell? w _ hw393_0)).trans hw393_0), ((HB.out.cell (World.block_lt_of_cell? w _ hw393_1)).trans hw393_1), ((HB.out.cell (World.block_lt_of_cell? w _ hw393_2)).trans hw393_2), ((HB.out.cell (World.block_lt_of_cell? w _ hw393_3)).trans hw393_3), ((HB.out.cell (World.block_lt_of_cell? w _ hw393_4)).trans hw393_4), ((HB.out.cell (World.block_lt_of_cell? w _ hw393_5)).trans hw393_5), ((HB.out.cell (World.block_lt_of_cell? w _ hw393_6)).trans hw393_6), ((HB.out.cell (World.block_lt_of_cell? w _ hw393_7)).trans hw393_7)⟩ (fun hHeld => ?_)
          clear hK K
          refine norm_ (a' := ?_) ?_ ?_
          rotate_left
          ·show Act.put _ (some 47) _ = _
           simp only [Act.put, List.setIfInBounds_toArray, List.set_cons_zero, List.set_cons_succ, i64_w, i32_w]
           rfl
          refine pS 7 (some 48) HT_ ?_
          refine pS 9 (some 50) HT_ ?_
          refine pS 10 (some 51) HT_ ?_
          refine pS 12 (some 53) HT_ ?_
          refine tS 8 (some 49) HT_ HW_ hHeld ?_
          refine tS 11 (some 52) HT_ HW_ hHeld ?_
          refine pS 13 (some 54) HT_ ?_
          refine pS 14 (some 55) HT_ ?_
          refine tS 15 (some 56) HT_ HW_ hHeld ?_
          refine oS 16 (some 57) HT_ (fun K hK => ?_)
          refine goes_ Try.func35 (by kernel_rfl) rfl #[.agg #[.slice A0_0 l0_0.length c0_0, .slice A0_1 l0_1.length c0_1, .slice A0_2 l0_2.length c0_2, .slice (some ad391) l0_3.length c0_3, .slice A0_4 l0_4.length c0_4], .int .i64 x7_2, .int .i64 ((rd_T42 l0_3 x8_3).f1)] (by rfl) rfl rfl tL ?_
          with_reducible refine (r08_On.calls k4 _ _ l0_0 _ _ l0_1 _ _ l0_2 _ _ l0_3 _ _ l0_4 x7_2 ((rd_T42 l0_3 x8_3).f1) true _ (sC HR0_0 HB) HC0_0.out (sC HR0_1 HB) HC0_1.out (sC HR0_2 HB) HC0_2.out (sC HR0_3 HB) HC0_3.out (sC HR0_4 HB) HC0_4.out A29.out).mono ?_
          rintro e w38 ⟨rfl, hb⟩
          refine ⟨_, rfl, ?_⟩
          replace HO_6 := Aside0.mk (Kd.R_below (kR HO_6) hb)
          replace BK385 := bK BK385 hb
          replace HB := bS (kB1 HB GE385) hb
          (try clear hb)
          (try clear hb2)
          (try clear hk)
          (try clear hi)
          refine hK.out _ _ ⟨(blk_cell BK385.out 0).trans rfl, (blk_cell BK385.out 1).trans rfl, (blk_cell BK385.out 2).trans rfl, (blk_cell BK385.out 3).trans rfl, (blk_cell BK385.out 4).trans rfl, ((HB.out.cell (World.block_lt_of_cell? w _ hw391_0)).trans hw391_0), ((HB.out.cell (World.block_lt_of_cell? w _ hw391_1)).trans hw391_1), ((HB.out.cell (World.block_lt_of_cell? w _ hw391_2)).trans hw391_2), ((HB.out.cell (World.block_lt_of_cell? w _ hw391_3)).trans hw391_3), ((HB.out.cell (World.block_lt_of_cell? w _ hw391_4)).trans hw391_4), ((HB.out.cell (World.block_lt_of_cell? w _ hw391_5)).trans hw391_5), ((HB.out.cell (World.block_lt_of_cell? w _ hw391_6)).trans hw391_6), ((HB.out.cell (World.block_lt_of_cell? w _ hw391_7)).trans hw391_7), ((HB.out.cell (World.block_lt_of_cell? w _ hw393_0)).trans hw393_0), ((HB.out.cell (World.block_lt_of_cell? w _ hw393_1)).trans hw393_1), ((HB.out.cell (World.block_lt_of_cell? w _ hw393_2)).trans hw393_2), ((HB.out.cell (World.block_lt_of_cell? w _ hw393_3)).trans hw393_3), ((HB.out.cell (World.block_lt_of_cell? w _ hw393_4)).trans hw393_4), ((HB.out.cell (World.block_lt_of_cell? w _ hw393_5)).trans hw393_5), ((HB.out.cell (World.block_lt_of_cell? w _ hw393_6)).trans hw393_6), ((HB.out.cell (World.block_lt_of_cell? w _ hw393_7)).trans hw393_7)⟩ (fun hHeld => ?_)
          clear hK K
          refine norm_ (a' := ?_) ?_ ?_
          rotate_left
          ·show Act.put _ (some 57) _ = _
           simp only [Act.put, List.setIfInBounds_toArray, List.set_cons_zero, List.set_cons_succ, i64_w, i32_w]
           rfl
          refine pS 17 (some 58) HT_ ?_
          refine done_ (done_of HT_.out (by kernel_rfl)) ?_
          try go_wp2
          replace HO_6 := Aside0.mk (Kd.R_drew HO_6.out)
          replace BK385 := Aside0.mk (blk_drew BK385.out)
          replace HB := Aside0.mk (below_drew1 HB.out)
          obtain ⟨Ao40, co40, eo40⟩ := Kd.R_slice HO_6.out
          (first | subst eo40 | (injection eo40 with f1_ f2_ f3_; have f4_ := f1_.symm; have f5_ := f3_.symm; clear f1_ f2_ f3_; subst f4_; subst f5_))
          have p395 : 0 ≤ (x7_2 : Int) := tD
          have q395 : x7_2 < (x6_4.length : Int) := tD
          obtain ⟨ad395, e395, hx395_0, hx395_1, hx395_2⟩ := at_T55 (Kd.R_reads' HO_6.out).2.2 x7_2 p395 q395
          cases e395
          replace p395 := eq_true p395
          replace q395 := eq_true q395
          have p396 : 0 ≤ (x8_3 : Int) := tD
          have q396 : x8_3 < (l1.length : Int) := tD
          obtain ⟨ad396, e396, hx396_0⟩ := Kd.at_int HR1.out x8_3 p396 q396
          have hw396_0 := hx396_0
          cases e396
          replace hx396_0 := cB HB hx396_0
          replace p396 := eq_true p396
          replace q396 := eq_true q396
          have p35 : 0 ≤ (x7_2 : Int) := tD
          have q35 : (x7_2 : Int) < ((x6_4.length : Int) : Int) := tD
          obtain ⟨go35, co35, eo35, gb35, gl35, cl35, HG35⟩ := Kd.R_form HO_6.out (by omega)
          (first | cases eo35 | (injection eo35 with ea_ en_ ec_; (first | subst ea_ | (injection ea_ with ea_; subst ea_)); subst ec_; clear en_))
          have GB35 := Aside0.mk gb35
          have GG35 := Aside0.mk HG35
          clear gb35 gl35 HG35
          (first | simp only [add_plain] at hx395_0 | skip)
          (first | simp only [add_plain] at hx395_1 | skip)
          (first | simp only [add_plain] at hx395_2 | skip)
          obtain ⟨ce35, hcl35, hM35, hcc35, hfr35⟩ := Kd.R_elem HO_6.out z55 (x7_2 : Int) p35 q35
          obtain rfl := k55_openM hM35
          have hx35_0 : World.cell? _ ⟨go35, (x7_2 : Int).toNat * 3, none⟩ = some (.int .i64 ((rd_T55 x6_4 x7_2).f0)) := hcc35 0 _ rfl
          have hx35_1 : World.cell? _ ⟨go35, (x7_2 : Int).toNat * 3 + 1, none⟩ = some (.int .i64 ((rd_T55 x6_4 x7_2).f1)) := hcc35 1 _ rfl
          have hx35_2 : World.cell? _ ⟨go35, (x7_2 : Int).toNat * 3 + 2, none⟩ = some (.int .i64 ((rd_T55 x6_4 x7_2).f2)) := hcc35 2 _ rfl
          have hf35_0 : World.frozen? _ ⟨go35, (x7_2 : Int).toNat * 3, none⟩ = false := hfr35 0
          have hf35_1 : World.frozen? _ ⟨go35, (x7_2 : Int).toNat * 3 + 1, none⟩ = false := hfr35 1
          have hf35_2 : World.frozen? _ ⟨go35, (x7_2 : Int).toNat * 3 + 2, none⟩ = false := hfr35 2
          clear hcl35 hcc35 hfr35 hM35
          replace p35 := eq_true p35
          replace q35 := eq_true q35
          obtain ⟨ce41, hcl41, hM41, hcc41, hfr41⟩ := Kd.R_elem HO_6.out z55 (x7_2 : Int) (tD) (by have h_ : (x7_2 : Int) < ((x6_4.length : Int) : Int) := tD; first | exact h_ | (have e_ := (Kd.R_reads' HO_6.out).1; omega) | simpa using h_)
          obtain rfl := k55_openM hM41
          have HP41 := (Kd.R_seg HO_6.out (x7_2 : Int) (tD) (by have h_ : (x7_2 : Int) < ((x6_4.length : Int) : Int) := tD; first | exact h_ | (have e_ := (Kd.R_reads' HO_6.out).1; omega) | simpa using h_) (seg := [.int .i64 (wrap64 (((rd_T55 x6_4 x7_2).f0) + (rd l1 x8_3)))]) (j := 0) hcl41 hcc41 (show 1 ≤ 3 from by decide) (x' := (⟨wrap64 (((rd_T55 x6_4 x7_2).f0) + (rd l1 x8_3)), (rd_T55 x6_4 x7_2).f1, (rd_T55 x6_4 x7_2).f2⟩ : S55)) (k55_mkM _ _ _ (⟨wrap64 (((rd_T55 x6_4 x7_2).f0) + (rd l1 x8_3)), (rd_T55 x6_4 x7_2).f1, (rd_T55 x6_4 x7_2).f2⟩ : S55) ) (fun _ hk => hk)).1
          rw [← Ny397.out] at HP41
          have HQ41 := Aside0.mk HP41
          clear hcl41 hcc41 hfr41 hM41 HP41
          refine start_ (n := 17) (S := fun w' => w'.cell? ⟨go35, ((x7_2).toNat * 3), none⟩ = some (.int .i64 ((rd_T55 x6_4 x7_2).f0)) ∧ w'.cell? ⟨go35, ((x7_2).toNat * 3) + 1, none⟩ = some (.int .i64 ((rd_T55 x6_4 x7_2).f1)) ∧ w'.cell? ⟨go35, ((x7_2).toNat * 3) + 2, none⟩ = some (.int .i64 ((rd_T55 x6_4 x7_2).f2)) ∧ w'.cell? (ad396.add (x8_3).toNat) = some (.int .i64 (rd l1 x8_3))) (ds := [16]) #[false, false, false, false, false, false, false, false, false, false, false, false, false, false, false, false, false] (by kernel_rfl) rfl rfl ⟨hx395_0, hx395_1, hx395_2, ((HB.out.cell (World.block_lt_of_cell? w _ hw396_0)).trans hw396_0)⟩ (fun hHeld => ?_); refine with_tabW r08_Loads.tab14 r08_Loads.bits14 (fun HT_ HW_ => ?_)
          generalize w38.drew = w39 at HO_6 BK385 HB GG35 HQ41 hf35_0 hf35_1 hf35_2 hx35_0 hx35_1 hx35_2 hx395_0 hx395_1 hx395_2 hx396_0 hHeld ⊢
          refine pS 0 (some 59) HT_ ?_
          refine pS 1 (some 60) HT_ ?_
          refine pS 2 (some 61) HT_ ?_
          refine pS 3 (some 62) HT_ ?_
          refine pS 4 (some 63) HT_ ?_
          refine pS 5 (some 64) HT_ ?_
          refine pS 6 (some 65) HT_ ?_
          refine pS 7 (some 66) HT_ ?_
          refine pS 9 (some 68) HT_ ?_
          refine pS 10 (some 69) HT_ ?_
          refine pS 11 (some 70) HT_ ?_
          refine pS 14 (some 73) HT_ ?_
          refine tS 8 (some 67) HT_ HW_ hHeld ?_
          refine tS 12 (some 71) HT_ HW_ hHeld ?_
          refine pS 13 (some 72) HT_ ?_
          refine pS 15 (some 74) HT_ ?_
          refine lS 16 none HT_ (fun K hK => ?_)
          refine skip_ (w1 := ?_) (by rfl) rfl ?_ ?_
          rotate_left
          ·go_simp
           rfl
          refine hK.out _ _ ?_
          clear hK K
          refine done_ (done_of HT_.out (by kernel_rfl)) ?_
          try go_wp2
          go_roundg k4
          case measure => have := HJ2.out; have := HK2.out; have := HK3.out; have := HK4.out; omega
          case rel => exact ⟨(y397), (wrap64 (x9_4 + 1)), tQ, H', ⟨kO4 HJ2 HK2 HK3 HK4⟩, ⟨kR HQ41⟩, ⟨by (with_reducible repeat (first | refine blk_drewN ?_ _ | refine blk_drew ?_ | refine blk_alloc ?_ _)); refine blk_far ?_ (by have h_ := Kd.R_ne HO_6.out BK385.out (by decide); intro e_; exact h_ (by rw [e_]; rfl)) _; (with_reducible repeat (first | refine blk_drewN ?_ _ | refine blk_drew ?_ | refine blk_alloc ?_ _)); exact BK385.out⟩, ⟨by repeat (first | (with_reducible first | exact HB.out | apply below_alloc | apply pw_below_drewN | apply below_drew1 | refine below_set ?_ GB35.out | refine below_set ?_ GE385.out) | exact HB.out)⟩⟩
         rw [if_neg c33] at H
         have c33b0 : (x9_4 == 0) = false := beq_eq_false_iff_ne.mpr c33
         have c33b1 : (x9_4 != 0) = true := bne_iff_ne.mpr c33
         by_cases c42 : x9_4 = 1
         ·rw [if_pos c42] at H
          have c42b0 : (x9_4 == 1) = true := beq_iff_eq.mpr c42
          have c42b1 : (x9_4 != 1) = false := bne_eq_false_iff_eq.mpr c42
          have c42b2 : ∀ (a_ : Addr) (W_ : World), (Instr.indexAt 55 (.pointer (some a_)) (.int .i64 x9_4)).run Try.prog W_ = .ok (.pointer (some (a_.add 1))) W_ := fun a_ W_ => ix_arr Try.underlying55 (fun W_ => by go_simp) 1 (by decide) x9_4 c42 a_ W_
          clear c42
          by_cases c43 : x8_3 < (l1.length : Int)
          rotate_left
          ·rw [if_neg c43] at H
           exact absurd H (by simp)
          rw [if_pos c43] at H
          have c43b0 : decide (x8_3 < (l1.length : Int)) = true := decide_eq_true c43
          clear c43
          obtain ⟨y399, hy399⟩ : ∃ y_ : List (S55), y_ = (x6_4.set (x7_2 : Int).toNat (⟨(rd_T55 x6_4 x7_2).f0, wrap64 (((rd_T55 x6_4 x7_2).f1) + (rd l1 x8_3)), (rd_T55 x6_4 x7_2).f2⟩ : S55)) := ⟨_, rfl⟩
          replace H : (r08_Loads.l2 k4 l1 y399 x7_2 x8_3 (wrap64 (x9_4 + 1)) l0_0 l0_1 l0_2 l0_3 l0_4) = some (r1, r2) := by first | (rw [hy399]; with_reducible exact H) | (have H2_ := (Option.bind_some _ _).symm.trans H; rw [hy399]; with_reducible exact H2_) | (have H2_ := (Option.bind_some _ _).symm.trans H; with_reducible exact H2_) | with_reducible exact H | (rw [hy399]; exact H) | exact H
          have Ny399 := Aside0.mk hy399
          clear hy399
          have H' := Aside0.mk H
          clear H
          try go_wp2
          replace HO_6 := Aside0.mk (Kd.R_drew HO_6.out)
          replace BK385 := Aside0.mk (blk_drew BK385.out)
          replace HB := Aside0.mk (below_drew1 HB.out)
          have p391 : 0 ≤ (x8_3 : Int) := tD
          have q391 : x8_3 < (l0_3.length : Int) := tD
          obtain ⟨ad391, e391, hx391_0, hx391_1, hx391_2, hx391_3, hx391_4, hx391_5, hx391_6, hx391_7⟩ := at_T42 HR0_3.out x8_3 p391 q391
          have hw391_7 := hx391_7
          have hw391_6 := hx391_6
          have hw391_5 := hx391_5
          have hw391_4 := hx391_4
          have hw391_3 := hx391_3
          have hw391_2 := hx391_2
          have hw391_1 := hx391_1
          have hw391_0 := hx391_0
          cases e391
          replace hx391_0 := cB HB hx391_0
          replace hx391_1 := cB HB hx391_1
          replace hx391_2 := cB HB hx391_2
          replace hx391_3 := cB HB hx391_3
          replace hx391_4 := cB HB hx391_4
          replace hx391_5 := cB HB hx391_5
          replace hx391_6 := cB HB hx391_6
          replace hx391_7 := cB HB hx391_7
          replace p391 := eq_true p391
          replace q391 := eq_true q391
          have p393 : 0 ≤ (x8_3 : Int) := tD
          have q393 : x8_3 < (l0_3.length : Int) := tD
          obtain ⟨ad393, e393, hx393_0, hx393_1, hx393_2, hx393_3, hx393_4, hx393_5, hx393_6, hx393_7⟩ := at_T42 HR0_3.out x8_3 p393 q393
          have hw393_7 := hx393_7
          have hw393_6 := hx393_6
          have hw393_5 := hx393_5
          have hw393_4 := hx393_4
          have hw393_3 := hx393_3
          have hw393_2 := hx393_2
          have hw393_1 := hx393_1
          have hw393_0 := hx393_0
          obtain rfl : ad391 = ad393 := (by injection e393)
          replace hx393_0 := cB HB hx393_0
          replace hx393_1 := cB HB hx393_1
          replace hx393_2 := cB HB hx393_2
          replace hx393_3 := cB HB hx393_3
          replace hx393_4 := cB HB hx393_4
          replace hx393_5 := cB HB hx393_5
          replace hx393_6 := cB HB hx393_6
          replace hx393_7 := cB HB hx393_7
          replace p393 := eq_true p393
          replace q393 := eq_true q393
          refine start_ (n := 18) (S := fun w' => w'.cell? ⟨gb385, 0, none⟩ = some (.slice A0_0 l0_0.length c0_0) ∧ w'.cell? ⟨gb385, 1, none⟩ = some (.slice A0_1 l0_1.length c0_1) ∧ w'.cell? ⟨gb385, 2, none⟩ = some (.slice A0_2 l0_2.length c0_2) ∧ w'.cell? ⟨gb385, 3, none⟩ = some (.slice (some ad391) l0_3.length c0_3) ∧ w'.cell? ⟨gb385, 4, none⟩ = some (.slice A0_4 l0_4.length c0_4) ∧ w'.cell? (ad391.add ((x8_3).toNat * 8)) = some (.string ((rd_T42 l0_3 x8_3).f0)) ∧ w'.cell? ⟨(ad391.add ((x8_3).toNat * 8)).block, (ad391.add ((x8_3).toNat * 8)).off + 1, none⟩ = some (.int .i64 ((rd_T42 l0_3 x8_3).f1)) ∧ w'.cell? ⟨(ad391.add ((x8_3).toNat * 8)).block, (ad391.add ((x8_3).toNat * 8)).off + 2, none⟩ = some (.int .i64 ((rd_T42 l0_3 x8_3).f2)) ∧ w'.cell? ⟨(ad391.add ((x8_3).toNat * 8)).block, (ad391.add ((x8_3).toNat * 8)).off + 3, none⟩ = some (.int .i64 ((rd_T42 l0_3 x8_3).f3)) ∧ w'.cell? ⟨(ad391.add ((x8_3).toNat * 8)).block, (ad391.add ((x8_3).toNat * 8)).off + 4, none⟩ = some (.int .i64 ((rd_T42 l0_3 x8_3).f4)) ∧ w'.cell? ⟨(ad391.add ((x8_3).toNat * 8)).block, (ad391.add ((x8_3).toNat * 8)).off + 5, none⟩ = some (.int .i64 ((rd_T42 l0_3 x8_3).f5)) ∧ w'.cell? ⟨(ad391.add ((x8_3).toNat * 8)).block, (ad391.add ((x8_3).toNat * 8)).off + 6, none⟩ = some (.int .i64 ((rd_T42 l0_3 x8_3).f6)) ∧ w'.cell? ⟨(ad391.add ((x8_3).toNat * 8)).block, (ad391.add ((x8_3).toNat * 8)).off + 7, none⟩ = some (.int .i64 ((rd_T42 l0_3 x8_3).f7)) ∧ w'.cell? (ad391.add ((x8_3).toNat * 8)) = some (.string ((rd_T42 l0_3 x8_3).f0)) ∧ w'.cell? ⟨(ad391.add ((x8_3).toNat * 8)).block, (ad391.add ((x8_3).toNat * 8)).off + 1, none⟩ = some (.int .i64 ((rd_T42 l0_3 x8_3).f1)) ∧ w'.cell? ⟨(ad391.add ((x8_3).toNat * 8)).block, (ad391.add ((x8_3).toNat * 8)).off + 2, none⟩ = some (.int .i64 ((rd_T42 l0_3 x8_3).f2)) ∧ w'.cell? ⟨(ad391.add ((x8_3).toNat * 8)).block, (ad391.add ((x8_3).toNat * 8)).off + 3, none⟩ = some (.int .i64 ((rd_T42 l0_3 x8_3).f3)) ∧ w'.cell? ⟨(ad391.add ((x8_3).toNat * 8)).block, (ad391.add ((x8_3).toNat * 8)).off + 4, none⟩ = some (.int .i64 ((rd_T42 l0_3 x8_3).f4)) ∧ w'.cell? ⟨(ad391.add ((x8_3).toNat * 8)).block, (ad391.add ((x8_3).toNat * 8)).off + 5, none⟩ = some (.int .i64 ((rd_T42 l0_3 x8_3).f5)) ∧ w'.cell? ⟨(ad391.add ((x8_3).toNat * 8)).block, (ad391.add ((x8_3).toNat * 8)).off + 6, none⟩ = some (.int .i64 ((rd_T42 l0_3 x8_3).f6)) ∧ w'.cell? ⟨(ad391.add ((x8_3).toNat * 8)).block, (ad391.add ((x8_3).toNat * 8)).off + 7, none⟩ = some (.int .i64 ((rd_T42 l0_3 x8_3).f7))) (ds := []) #[false, false, false, false, false, false, false, false, false, false, false, false, false, false, false, false, false, false] (by kernel_rfl) rfl rfl ⟨(blk_cell BK385.out 0).trans rfl, (blk_cell BK385.out 1).trans rfl, (blk_cell BK385.out 2).trans rfl, (blk_cell BK385.out 3).trans rfl, (blk_cell BK385.out 4).trans rfl, ((HB.out.cell (World.block_lt_of_cell? w _ hw391_0)).trans hw391_0), ((HB.out.cell (World.block_lt_of_cell? w _ hw391_1)).trans hw391_1), ((HB.out.cell (World.block_lt_of_cell? w _ hw391_2)).trans hw391_2), ((HB.out.cell (World.block_lt_of_cell? w _ hw391_3)).trans hw391_3), ((HB.out.cell (World.block_lt_of_cell? w _ hw391_4)).trans hw391_4), ((HB.out.cell (World.block_lt_of_cell? w _ hw391_5)).trans hw391_5), ((HB.out.cell (World.block_lt_of_cell? w _ hw391_6)).trans hw391_6), ((HB.out.cell (World.block_lt_of_cell? w _ hw391_7)).trans hw391_7), ((HB.out.cell (World.block_lt_of_cell? w _ hw393_0)).trans hw393_0), ((HB.out.cell (World.block_lt_of_cell? w _ hw393_1)).trans hw393_1), ((HB.out.cell (World.block_lt_of_cell? w _ hw393_2)).trans hw393_2), ((HB.out.cell (World.block_lt_of_cell? w _ hw393_3)).trans hw393_3), ((HB.out.cell (World.block_lt_of_cell? w _ hw393_4)).trans hw393_4), ((HB.out.cell (World.block_lt_of_cell? w _ hw393_5)).trans hw393_5), ((HB.out.cell (World.block_lt_of_cell? w _ hw393_6)).trans hw393_6), ((HB.out.cell (World.block_lt_of_cell? w _ hw393_7)).trans hw393_7)⟩ (fun hHeld => ?_); refine with_tabW r08_Loads.tab13 r08_Loads.bits13 (fun HT_ HW_ => ?_)
          generalize wr.drew = w45 at HO_6 BK385 HB hx391_0 hx391_1 hx391_2 hx391_3 hx391_4 hx391_5 hx391_6 hx391_7 hx393_0 hx393_1 hx393_2 hx393_3 hx393_4 hx393_5 hx393_6 hx393_7 hHeld ⊢
          refine pS 0 (some 41) HT_ ?_
          refine pS 2 (some 43) HT_ ?_
          refine pS 5 (some 46) HT_ ?_
          refine tS 1 (some 42) HT_ HW_ hHeld ?_
          refine pS 3 (some 44) HT_ ?_
          refine tS 4 (some 45) HT_ HW_ hHeld ?_
          refine oS 6 (some 47) HT_ (fun K hK => ?_)
          refine goes_ Try.func34 (by kernel_rfl) rfl #[.agg #[.string ((rd_T42 l0_3 x8_3).f0), .int .i64 ((rd_T42 l0_3 x8_3).f1), .int .i64 ((rd_T42 l0_3 x8_3).f2), .int .i64 ((rd_T42 l0_3 x8_3).f3), .int .i64 ((rd_T42 l0_3 x8_3).f4), .int .i64 ((rd_T42 l0_3 x8_3).f5), .int .i64 ((rd_T42 l0_3 x8_3).f6), .int .i64 ((rd_T42 l0_3 x8_3).f7)], .int .i64 x9_4] (by rfl) rfl rfl tL ?_
          with_reducible refine (r08_Uses.calls ((rd_T42 l0_3 x8_3).f0) ((rd_T42 l0_3 x8_3).f1) ((rd_T42 l0_3 x8_3).f2) ((rd_T42 l0_3 x8_3).f3) ((rd_T42 l0_3 x8_3).f4) ((rd_T42 l0_3 x8_3).f5) ((rd_T42 l0_3 x8_3).f6) ((rd_T42 l0_3 x8_3).f7) x9_4 true _ A27.out).mono ?_
          rintro e w46 ⟨rfl, hb⟩
          refine ⟨_, rfl, ?_⟩
          replace HO_6 := Aside0.mk (Kd.R_below (kR HO_6) hb)
          replace BK385 := bK BK385 hb
          replace HB := bS (kB1 HB GE385) hb
          (try clear hb)
          (try clear hb2)
          (try clear hk)
          (try clear hi)
          refine hK.out _ _ ⟨(blk_cell BK385.out 0).trans rfl, (blk_cell BK385.out 1).trans rfl, (blk_cell BK385.out 2).trans rfl, (blk_cell BK385.out 3).trans rfl, (blk_cell BK385.out 4).trans rfl, ((HB.out.cell (World.block_lt_of_cell? w _ hw391_0)).trans hw391_0), ((HB.out.cell (World.block_lt_of_cell? w _ hw391_1)).trans hw391_1), ((HB.out.cell (World.block_lt_of_cell? w _ hw391_2)).trans hw391_2), ((HB.out.cell (World.block_lt_of_cell? w _ hw391_3)).trans hw391_3), ((HB.out.cell (World.block_lt_of_cell? w _ hw391_4)).trans hw391_4), ((HB.out.cell (World.block_lt_of_cell? w _ hw391_5)).trans hw391_5), ((HB.out.cell (World.block_lt_of_cell? w _ hw391_6)).trans hw391_6), ((HB.out.cell (World.block_lt_of_cell? w _ hw391_7)).trans hw391_7), ((HB.out.cell (World.block_lt_of_cell? w _ hw393_0)).trans hw393_0), ((HB.out.cell (World.block_lt_of_cell? w _ hw393_1)).trans hw393_1), ((HB.out.cell (World.block_lt_of_cell? w _ hw393_2)).trans hw393_2), ((HB.out.cell (World.block_lt_of_cell? w _ hw393_3)).trans hw393_3), ((HB.out.cell (World.block_lt_of_cell? w _ hw393_4)).trans hw393_4), ((HB.out.cell (World.block_lt_of_cell? w _ hw393_5)).trans hw393_5), ((HB.out.cell (World.block_lt_of_cell? w _ hw393_6)).trans hw393_6), ((HB.out.cell (World.block_lt_of_cell? w _ hw393_7)).trans hw393_7)⟩ (fun hHeld => ?_)
          clear hK K
          refine norm_ (a' := ?_) ?_ ?_
          rotate_left
          ·show Act.put _ (some 47) _ = _
           simp only [Act.put, List.setIfInBounds_toArray, List.set_cons_zero, List.set_cons_succ, i64_w, i32_w]
           rfl
          refine pS 7 (some 48) HT_ ?_
          refine pS 9 (some 50) HT_ ?_
          refine pS 10 (some 51) HT_ ?_
          refine pS 12 (some 53) HT_ ?_
          refine tS 8 (some 49) HT_ HW_ hHeld ?_
          refine tS 11 (some 52) HT_ HW_ hHeld ?_
          refine pS 13 (some 54) HT_ ?_
          refine pS 14 (some 55) HT_ ?_
          refine tS 15 (some 56) HT_ HW_ hHeld ?_
          refine oS 16 (some 57) HT_ (fun K hK => ?_)
          refine goes_ Try.func35 (by kernel_rfl) rfl #[.agg #[.slice A0_0 l0_0.length c0_0, .slice A0_1 l0_1.length c0_1, .slice A0_2 l0_2.length c0_2, .slice (some ad391) l0_3.length c0_3, .slice A0_4 l0_4.length c0_4], .int .i64 x7_2, .int .i64 ((rd_T42 l0_3 x8_3).f1)] (by rfl) rfl rfl tL ?_
          with_reducible refine (r08_On.calls k4 _ _ l0_0 _ _ l0_1 _ _ l0_2 _ _ l0_3 _ _ l0_4 x7_2 ((rd_T42 l0_3 x8_3).f1) true _ (sC HR0_0 HB) HC0_0.out (sC HR0_1 HB) HC0_1.out (sC HR0_2 HB) HC0_2.out (sC HR0_3 HB) HC0_3.out (sC HR0_4 HB) HC0_4.out A29.out).mono ?_
          rintro e w47 ⟨rfl, hb⟩
          refine ⟨_, rfl, ?_⟩
          replace HO_6 := Aside0.mk (Kd.R_below (kR HO_6) hb)
          replace BK385 := bK BK385 hb
          replace HB := bS (kB1 HB GE385) hb
          (try clear hb)
          (try clear hb2)
          (try clear hk)
          (try clear hi)
          refine hK.out _ _ ⟨(blk_cell BK385.out 0).trans rfl, (blk_cell BK385.out 1).trans rfl, (blk_cell BK385.out 2).trans rfl, (blk_cell BK385.out 3).trans rfl, (blk_cell BK385.out 4).trans rfl, ((HB.out.cell (World.block_lt_of_cell? w _ hw391_0)).trans hw391_0), ((HB.out.cell (World.block_lt_of_cell? w _ hw391_1)).trans hw391_1), ((HB.out.cell (World.block_lt_of_cell? w _ hw391_2)).trans hw391_2), ((HB.out.cell (World.block_lt_of_cell? w _ hw391_3)).trans hw391_3), ((HB.out.cell (World.block_lt_of_cell? w _ hw391_4)).trans hw391_4), ((HB.out.cell (World.block_lt_of_cell? w _ hw391_5)).trans hw391_5), ((HB.out.cell (World.block_lt_of_cell? w _ hw391_6)).trans hw391_6), ((HB.out.cell (World.block_lt_of_cell? w _ hw391_7)).trans hw391_7), ((HB.out.cell (World.block_lt_of_cell? w _ hw393_0)).trans hw393_0), ((HB.out.cell (World.block_lt_of_cell? w _ hw393_1)).trans hw393_1), ((HB.out.cell (World.block_lt_of_cell? w _ hw393_2)).trans hw393_2), ((HB.out.cell (World.block_lt_of_cell? w _ hw393_3)).trans hw393_3), ((HB.out.cell (World.block_lt_of_cell? w _ hw393_4)).trans hw393_4), ((HB.out.cell (World.block_lt_of_cell? w _ hw393_5)).trans hw393_5), ((HB.out.cell (World.block_lt_of_cell? w _ hw393_6)).trans hw393_6), ((HB.out.cell (World.block_lt_of_cell? w _ hw393_7)).trans hw393_7)⟩ (fun hHeld => ?_)
          clear hK K
          refine norm_ (a' := ?_) ?_ ?_
          rotate_left
          ·show Act.put _ (some 57) _ = _
           simp only [Act.put, List.setIfInBounds_toArray, List.set_cons_zero, List.set_cons_succ, i64_w, i32_w]
           rfl
          refine pS 17 (some 58) HT_ ?_
          refine done_ (done_of HT_.out (by kernel_rfl)) ?_
          try go_wp2
          replace HO_6 := Aside0.mk (Kd.R_drew HO_6.out)
          replace BK385 := Aside0.mk (blk_drew BK385.out)
          replace HB := Aside0.mk (below_drew1 HB.out)
          obtain ⟨Ao49, co49, eo49⟩ := Kd.R_slice HO_6.out
          (first | subst eo49 | (injection eo49 with f1_ f2_ f3_; have f4_ := f1_.symm; have f5_ := f3_.symm; clear f1_ f2_ f3_; subst f4_; subst f5_))
          have p395 : 0 ≤ (x7_2 : Int) := tD
          have q395 : x7_2 < (x6_4.length : Int) := tD
          obtain ⟨ad395, e395, hx395_0, hx395_1, hx395_2⟩ := at_T55 (Kd.R_reads' HO_6.out).2.2 x7_2 p395 q395
          cases e395
          replace p395 := eq_true p395
          replace q395 := eq_true q395
          have p398 : 0 ≤ (x8_3 : Int) := tD
          have q398 : x8_3 < (l1.length : Int) := tD
          obtain ⟨ad398, e398, hx398_0⟩ := Kd.at_int HR1.out x8_3 p398 q398
          have hw398_0 := hx398_0
          cases e398
          replace hx398_0 := cB HB hx398_0
          replace p398 := eq_true p398
          replace q398 := eq_true q398
          have p44 : 0 ≤ (x7_2 : Int) := tD
          have q44 : (x7_2 : Int) < ((x6_4.length : Int) : Int) := tD
          obtain ⟨go44, co44, eo44, gb44, gl44, cl44, HG44⟩ := Kd.R_form HO_6.out (by omega)
          (first | cases eo44 | (injection eo44 with ea_ en_ ec_; (first | subst ea_ | (injection ea_ with ea_; subst ea_)); subst ec_; clear en_))
          have GB44 := Aside0.mk gb44
          have GG44 := Aside0.mk HG44
          clear gb44 gl44 HG44
          (first | simp only [add_plain] at hx395_0 | skip)
          (first | simp only [add_plain] at hx395_1 | skip)
          (first | simp only [add_plain] at hx395_2 | skip)
          obtain ⟨ce44, hcl44, hM44, hcc44, hfr44⟩ := Kd.R_elem HO_6.out z55 (x7_2 : Int) p44 q44
          obtain rfl := k55_openM hM44
          have hx44_0 : World.cell? _ ⟨go44, (x7_2 : Int).toNat * 3, none⟩ = some (.int .i64 ((rd_T55 x6_4 x7_2).f0)) := hcc44 0 _ rfl
          have hx44_1 : World.cell? _ ⟨go44, (x7_2 : Int).toNat * 3 + 1, none⟩ = some (.int .i64 ((rd_T55 x6_4 x7_2).f1)) := hcc44 1 _ rfl
          have hx44_2 : World.cell? _ ⟨go44, (x7_2 : Int).toNat * 3 + 2, none⟩ = some (.int .i64 ((rd_T55 x6_4 x7_2).f2)) := hcc44 2 _ rfl
          have hf44_0 : World.frozen? _ ⟨go44, (x7_2 : Int).toNat * 3, none⟩ = false := hfr44 0
          have hf44_1 : World.frozen? _ ⟨go44, (x7_2 : Int).toNat * 3 + 1, none⟩ = false := hfr44 1
          have hf44_2 : World.frozen? _ ⟨go44, (x7_2 : Int).toNat * 3 + 2, none⟩ = false := hfr44 2
          clear hcl44 hcc44 hfr44 hM44
          replace p44 := eq_true p44
          replace q44 := eq_true q44
          obtain ⟨ce50, hcl50, hM50, hcc50, hfr50⟩ := Kd.R_elem HO_6.out z55 (x7_2 : Int) (tD) (by have h_ : (x7_2 : Int) < ((x6_4.length : Int) : Int) := tD; first | exact h_ | (have e_ := (Kd.R_reads' HO_6.out).1; omega) | simpa using h_)
          obtain rfl := k55_openM hM50
          have HP50 := (Kd.R_seg HO_6.out (x7_2 : Int) (tD) (by have h_ : (x7_2 : Int) < ((x6_4.length : Int) : Int) := tD; first | exact h_ | (have e_ := (Kd.R_reads' HO_6.out).1; omega) | simpa using h_) (seg := [.int .i64 (wrap64 (((rd_T55 x6_4 x7_2).f1) + (rd l1 x8_3)))]) (j := 1) hcl50 hcc50 (show 2 ≤ 3 from by decide) (x' := (⟨(rd_T55 x6_4 x7_2).f0, wrap64 (((rd_T55 x6_4 x7_2).f1) + (rd l1 x8_3)), (rd_T55 x6_4 x7_2).f2⟩ : S55)) (k55_mkM _ _ _ (⟨(rd_T55 x6_4 x7_2).f0, wrap64 (((rd_T55 x6_4 x7_2).f1) + (rd l1 x8_3)), (rd_T55 x6_4 x7_2).f2⟩ : S55) ) (fun _ hk => hk)).1
          rw [← Ny399.out] at HP50
          have HQ50 := Aside0.mk HP50
          clear hcl50 hcc50 hfr50 hM50 HP50
          refine start_ (n := 17) (S := fun w' => w'.cell? ⟨go44, ((x7_2).toNat * 3), none⟩ = some (.int .i64 ((rd_T55 x6_4 x7_2).f0)) ∧ w'.cell? ⟨go44, ((x7_2).toNat * 3) + 1, none⟩ = some (.int .i64 ((rd_T55 x6_4 x7_2).f1)) ∧ w'.cell? ⟨go44, ((x7_2).toNat * 3) + 2, none⟩ = some (.int .i64 ((rd_T55 x6_4 x7_2).f2)) ∧ w'.cell? (ad398.add (x8_3).toNat) = some (.int .i64 (rd l1 x8_3))) (ds := [16]) #[false, false, false, false, false, false, false, false, false, false, false, false, false, false, false, false, false] (by kernel_rfl) rfl rfl ⟨hx395_0, hx395_1, hx395_2, ((HB.out.cell (World.block_lt_of_cell? w _ hw398_0)).trans hw398_0)⟩ (fun hHeld => ?_); refine with_tabW r08_Loads.tab14 r08_Loads.bits14 (fun HT_ HW_ => ?_)
          generalize w47.drew = w48 at HO_6 BK385 HB GG44 HQ50 hf44_0 hf44_1 hf44_2 hx395_0 hx395_1 hx395_2 hx398_0 hx44_0 hx44_1 hx44_2 hHeld ⊢
          refine pS 0 (some 59) HT_ ?_
          refine pS 1 (some 60) HT_ ?_
          refine pS 2 (some 61) HT_ ?_
          refine pS 3 (some 62) HT_ ?_
          refine pS 4 (some 63) HT_ ?_
          refine pS 5 (some 64) HT_ ?_
          refine pS 6 (some 65) HT_ ?_
          refine pS 7 (some 66) HT_ ?_
          refine pS 9 (some 68) HT_ ?_
          refine pS 10 (some 69) HT_ ?_
          refine pS 11 (some 70) HT_ ?_
          refine pS 14 (some 73) HT_ ?_
          refine tS 8 (some 67) HT_ HW_ hHeld ?_
          refine tS 12 (some 71) HT_ HW_ hHeld ?_
          refine pS 13 (some 72) HT_ ?_
          refine pS 15 (some 74) HT_ ?_
          refine lS 16 none HT_ (fun K hK => ?_)
          refine skip_ (w1 := ?_) (by rfl) rfl ?_ ?_
          rotate_left
          ·go_simp
           rfl
          refine hK.out _ _ ?_
          clear hK K
          refine done_ (done_of HT_.out (by kernel_rfl)) ?_
          try go_wp2
          go_roundg k4
          case measure => have := HJ2.out; have := HK2.out; have := HK3.out; have := HK4.out; omega
          case rel => exact ⟨(y399), (wrap64 (x9_4 + 1)), tQ, H', ⟨kO4 HJ2 HK2 HK3 HK4⟩, ⟨kR HQ50⟩, ⟨by (with_reducible repeat (first | refine blk_drewN ?_ _ | refine blk_drew ?_ | refine blk_alloc ?_ _)); refine blk_far ?_ (by have h_ := Kd.R_ne HO_6.out BK385.out (by decide); intro e_; exact h_ (by rw [e_]; rfl)) _; (with_reducible repeat (first | refine blk_drewN ?_ _ | refine blk_drew ?_ | refine blk_alloc ?_ _)); exact BK385.out⟩, ⟨by repeat (first | (with_reducible first | exact HB.out | apply below_alloc | apply pw_below_drewN | apply below_drew1 | refine below_set ?_ GB44.out | refine below_set ?_ GE385.out) | exact HB.out)⟩⟩
         rw [if_neg c42] at H
         have c42b0 : (x9_4 == 1) = false := beq_eq_false_iff_ne.mpr c42
         have c42b1 : (x9_4 != 1) = true := bne_iff_ne.mpr c42
         by_cases c51 : x9_4 = 2
         rotate_left
         ·rw [if_neg c51] at H
          exact absurd H (by simp)
         rw [if_pos c51] at H
         have c51b0 : (x9_4 == 2) = true := beq_iff_eq.mpr c51
         have c51b1 : (x9_4 != 2) = false := bne_eq_false_iff_eq.mpr c51
         have c51b2 : ∀ (a_ : Addr) (W_ : World), (Instr.indexAt 55 (.pointer (some a_)) (.int .i64 x9_4)).run Try.prog W_ = .ok (.pointer (some (a_.add 2))) W_ := fun a_ W_ => ix_arr Try.underlying55 (fun W_ => by go_simp) 2 (by decide) x9_4 c51 a_ W_
         clear c51
         by_cases c52 : x8_3 < (l1.length : Int)
         rotate_left
         ·rw [if_neg c52] at H
          exact absurd H (by simp)
         rw [if_pos c52] at H
         have c52b0 : decide (x8_3 < (l1.length : Int)) = true := decide_eq_true c52
         clear c52
         obtain ⟨y401, hy401⟩ : ∃ y_ : List (S55), y_ = (x6_4.set (x7_2 : Int).toNat (⟨(rd_T55 x6_4 x7_2).f0, (rd_T55 x6_4 x7_2).f1, wrap64 (((rd_T55 x6_4 x7_2).f2) + (rd l1 x8_3))⟩ : S55)) := ⟨_, rfl⟩
         replace H : (r08_Loads.l2 k4 l1 y401 x7_2 x8_3 (wrap64 (x9_4 + 1)) l0_0 l0_1 l0_2 l0_3 l0_4) = some (r1, r2) := by first | (rw [hy401]; with_reducible exact H) | (have H2_ := (Option.bind_some _ _).symm.trans H; rw [hy401]; with_reducible exact H2_) | (have H2_ := (Option.bind_some _ _).symm.trans H; with_reducible exact H2_) | with_reducible exact H | (rw [hy401]; exact H) | exact H
         have Ny401 := Aside0.mk hy401
         clear hy401
         have H' := Aside0.mk H
         clear H
         try go_wp2
         replace HO_6 := Aside0.mk (Kd.R_drew HO_6.out)
         replace BK385 := Aside0.mk (blk_drew BK385.out)
         replace HB := Aside0.mk (below_drew1 HB.out)
         have p391 : 0 ≤ (x8_3 : Int) := tD
         have q391 : x8_3 < (l0_3.length : Int) := tD
         obtain ⟨ad391, e391, hx391_0, hx391_1, hx391_2, hx391_3, hx391_4, hx391_5, hx391_6, hx391_7⟩ := at_T42 HR0_3.out x8_3 p391 q391
         have hw391_7 := hx391_7
         have hw391_6 := hx391_6
         have hw391_5 := hx391_5
         have hw391_4 := hx391_4
         have hw391_3 := hx391_3
         have hw391_2 := hx391_2
         have hw391_1 := hx391_1
         have hw391_0 := hx391_0
         cases e391
         replace hx391_0 := cB HB hx391_0
         replace hx391_1 := cB HB hx391_1
         replace hx391_2 := cB HB hx391_2
         replace hx391_3 := cB HB hx391_3
         replace hx391_4 := cB HB hx391_4
         replace hx391_5 := cB HB hx391_5
         replace hx391_6 := cB HB hx391_6
         replace hx391_7 := cB HB hx391_7
         replace p391 := eq_true p391
         replace q391 := eq_true q391
         have p393 : 0 ≤ (x8_3 : Int) := tD
         have q393 : x8_3 < (l0_3.length : Int) := tD
         obtain ⟨ad393, e393, hx393_0, hx393_1, hx393_2, hx393_3, hx393_4, hx393_5, hx393_6, hx393_7⟩ := at_T42 HR0_3.out x8_3 p393 q393
         have hw393_7 := hx393_7
         have hw393_6 := hx393_6
         have hw393_5 := hx393_5
         have hw393_4 := hx393_4
         have hw393_3 := hx393_3
         have hw393_2 := hx393_2
         have hw393_1 := hx393_1
         have hw393_0 := hx393_0
         obtain rfl : ad391 = ad393 := (by injection e393)
         replace hx393_0 := cB HB hx393_0
         replace hx393_1 := cB HB hx393_1
         replace hx393_2 := cB HB hx393_2
         replace hx393_3 := cB HB hx393_3
         replace hx393_4 := cB HB hx393_4
         replace hx393_5 := cB HB hx393_5
         replace hx393_6 := cB HB hx393_6
         replace hx393_7 := cB HB hx393_7
         replace p393 := eq_true p393
         replace q393 := eq_true q393
         refine start_ (n := 18) (S := fun w' => w'.cell? ⟨gb385, 0, none⟩ = some (.slice A0_0 l0_0.length c0_0) ∧ w'.cell? ⟨gb385, 1, none⟩ = some (.slice A0_1 l0_1.length c0_1) ∧ w'.cell? ⟨gb385, 2, none⟩ = some (.slice A0_2 l0_2.length c0_2) ∧ w'.cell? ⟨gb385, 3, none⟩ = some (.slice (some ad391) l0_3.length c0_3) ∧ w'.cell? ⟨gb385, 4, none⟩ = some (.slice A0_4 l0_4.length c0_4) ∧ w'.cell? (ad391.add ((x8_3).toNat * 8)) = some (.string ((rd_T42 l0_3 x8_3).f0)) ∧ w'.cell? ⟨(ad391.add ((x8_3).toNat * 8)).block, (ad391.add ((x8_3).toNat * 8)).off + 1, none⟩ = some (.int .i64 ((rd_T42 l0_3 x8_3).f1)) ∧ w'.cell? ⟨(ad391.add ((x8_3).toNat * 8)).block, (ad391.add ((x8_3).toNat * 8)).off + 2, none⟩ = some (.int .i64 ((rd_T42 l0_3 x8_3).f2)) ∧ w'.cell? ⟨(ad391.add ((x8_3).toNat * 8)).block, (ad391.add ((x8_3).toNat * 8)).off + 3, none⟩ = some (.int .i64 ((rd_T42 l0_3 x8_3).f3)) ∧ w'.cell? ⟨(ad391.add ((x8_3).toNat * 8)).block, (ad391.add ((x8_3).toNat * 8)).off + 4, none⟩ = some (.int .i64 ((rd_T42 l0_3 x8_3).f4)) ∧ w'.cell? ⟨(ad391.add ((x8_3).toNat * 8)).block, (ad391.add ((x8_3).toNat * 8)).off + 5, none⟩ = some (.int .i64 ((rd_T42 l0_3 x8_3).f5)) ∧ w'.cell? ⟨(ad391.add ((x8_3).toNat * 8)).block, (ad391.add ((x8_3).toNat * 8)).off + 6, none⟩ = some (.int .i64 ((rd_T42 l0_3 x8_3).f6)) ∧ w'.cell? ⟨(ad391.add ((x8_3).toNat * 8)).block, (ad391.add ((x8_3).toNat * 8)).off + 7, none⟩ = some (.int .i64 ((rd_T42 l0_3 x8_3).f7)) ∧ w'.cell? (ad391.add ((x8_3).toNat * 8)) = some (.string ((rd_T42 l0_3 x8_3).f0)) ∧ w'.cell? ⟨(ad391.add ((x8_3).toNat * 8)).block, (ad391.add ((x8_3).toNat * 8)).off + 1, none⟩ = some (.int .i64 ((rd_T42 l0_3 x8_3).f1)) ∧ w'.cell? ⟨(ad391.add ((x8_3).toNat * 8)).block, (ad391.add ((x8_3).toNat * 8)).off + 2, none⟩ = some (.int .i64 ((rd_T42 l0_3 x8_3).f2)) ∧ w'.cell? ⟨(ad391.add ((x8_3).toNat * 8)).block, (ad391.add ((x8_3).toNat * 8)).off + 3, none⟩ = some (.int .i64 ((rd_T42 l0_3 x8_3).f3)) ∧ w'.cell? ⟨(ad391.add ((x8_3).toNat * 8)).block, (ad391.add ((x8_3).toNat * 8)).off + 4, none⟩ = some (.int .i64 ((rd_T42 l0_3 x8_3).f4)) ∧ w'.cell? ⟨(ad391.add ((x8_3).toNat * 8)).block, (ad391.add ((x8_3).toNat * 8)).off + 5, none⟩ = some (.int .i64 ((rd_T42 l0_3 x8_3).f5)) ∧ w'.cell? ⟨(ad391.add ((x8_3).toNat * 8)).block, (ad391.add ((x8_3).toNat * 8)).off + 6, none⟩ = some (.int .i64 ((rd_T42 l0_3 x8_3).f6)) ∧ w'.cell? ⟨(ad391.add ((x8_3).toNat * 8)).block, (ad391.add ((x8_3).toNat * 8)).off + 7, none⟩ = some (.int .i64 ((rd_T42 l0_3 x8_3).f7))) (ds := []) #[false, false, false, false, false, false, false, false, false, false, false, false, false, false, false, false, false, false] (by kernel_rfl) rfl rfl ⟨(blk_cell BK385.out 0).trans rfl, (blk_cell BK385.out 1).trans rfl, (blk_cell BK385.out 2).trans rfl, (blk_cell BK385.out 3).trans rfl, (blk_cell BK385.out 4).trans rfl, ((HB.out.cell (World.block_lt_of_cell? w _ hw391_0)).trans hw391_0), ((HB.out.cell (World.block_lt_of_cell? w _ hw391_1)).trans hw391_1), ((HB.out.cell (World.block_lt_of_cell? w _ hw391_2)).trans hw391_2), ((HB.out.cell (World.block_lt_of_cell? w _ hw391_3)).trans hw391_3), ((HB.out.cell (World.block_lt_of_cell? w _ hw391_4)).trans hw391_4), ((HB.out.cell (World.block_lt_of_cell? w _ hw391_5)).trans hw391_5), ((HB.out.cell (World.block_lt_of_cell? w _ hw391_6)).trans hw391_6), ((HB.out.cell (World.block_lt_of_cell? w _ hw391_7)).trans hw391_7), ((HB.out.cell (World.block_lt_of_cell? w _ hw393_0)).trans hw393_0), ((HB.out.cell (World.block_lt_of_cell? w _ hw393_1)).trans hw393_1), ((HB.out.cell (World.block_lt_of_cell? w _ hw393_2)).trans hw393_2), ((HB.out.cell (World.block_lt_of_cell? w _ hw393_3)).trans hw393_3), ((HB.out.cell (World.block_lt_of_cell? w _ hw393_4)).trans hw393_4), ((HB.out.cell (World.block_lt_of_cell? w _ hw393_5)).trans hw393_5), ((HB.out.cell (World.block_lt_of_cell? w _ hw393_6)).trans hw393_6), ((HB.out.cell (World.block_lt_of_cell? w _ hw393_7)).trans hw393_7)⟩ (fun hHeld => ?_); refine with_tabW r08_Loads.tab13 r08_Loads.bits13 (fun HT_ HW_ => ?_)
         generalize wr.drew = w54 at HO_6 BK385 HB hx391_0 hx391_1 hx391_2 hx391_3 hx391_4 hx391_5 hx391_6 hx391_7 hx393_0 hx393_1 hx393_2 hx393_3 hx393_4 hx393_5 hx393_6 hx393_7 hHeld ⊢
         refine pS 0 (some 41) HT_ ?_
         refine pS 2 (some 43) HT_ ?_
         refine pS 5 (some 46) HT_ ?_
         refine tS 1 (some 42) HT_ HW_ hHeld ?_
         refine pS 3 (some 44) HT_ ?_
         refine tS 4 (some 45) HT_ HW_ hHeld ?_
         refine oS 6 (some 47) HT_ (fun K hK => ?_)
         refine goes_ Try.func34 (by kernel_rfl) rfl #[.agg #[.string ((rd_T42 l0_3 x8_3).f0), .int .i64 ((rd_T42 l0_3 x8_3).f1), .int .i64 ((rd_T42 l0_3 x8_3).f2), .int .i64 ((rd_T42 l0_3 x8_3).f3), .int .i64 ((rd_T42 l0_3 x8_3).f4), .int .i64 ((rd_T42 l0_3 x8_3).f5), .int .i64 ((rd_T42 l0_3 x8_3).f6), .int .i64 ((rd_T42 l0_3 x8_3).f7)], .int .i64 x9_4] (by rfl) rfl rfl tL ?_
         with_reducible refine (r08_Uses.calls ((rd_T42 l0_3 x8_3).f0) ((rd_T42 l0_3 x8_3).f1) ((rd_T42 l0_3 x8_3).f2) ((rd_T42 l0_3 x8_3).f3) ((rd_T42 l0_3 x8_3).f4) ((rd_T42 l0_3 x8_3).f5) ((rd_T42 l0_3 x8_3).f6) ((rd_T42 l0_3 x8_3).f7) x9_4 true _ A27.out).mono ?_
         rintro e w55 ⟨rfl, hb⟩
         refine ⟨_, rfl, ?_⟩
         replace HO_6 := Aside0.mk (Kd.R_below (kR HO_6) hb)
         replace BK385 := bK BK385 hb
         replace HB := bS (kB1 HB GE385) hb
         (try clear hb)
         (try clear hb2)
         (try clear hk)
         (try clear hi)
         refine hK.out _ _ ⟨(blk_cell BK385.out 0).trans rfl, (blk_cell BK385.out 1).trans rfl, (blk_cell BK385.out 2).trans rfl, (blk_cell BK385.out 3).trans rfl, (blk_cell BK385.out 4).trans rfl, ((HB.out.cell (World.block_lt_of_cell? w _ hw391_0)).trans hw391_0), ((HB.out.cell (World.block_lt_of_cell? w _ hw391_1)).trans hw391_1), ((HB.out.cell (World.block_lt_of_cell? w _ hw391_2)).trans hw391_2), ((HB.out.cell (World.block_lt_of_cell? w _ hw391_3)).trans hw391_3), ((HB.out.cell (World.block_lt_of_cell? w _ hw391_4)).trans hw391_4), ((HB.out.cell (World.block_lt_of_cell? w _ hw391_5)).trans hw391_5), ((HB.out.cell (World.block_lt_of_cell? w _ hw391_6)).trans hw391_6), ((HB.out.cell (World.block_lt_of_cell? w _ hw391_7)).trans hw391_7), ((HB.out.cell (World.block_lt_of_cell? w _ hw393_0)).trans hw393_0), ((HB.out.cell (World.block_lt_of_cell? w _ hw393_1)).trans hw393_1), ((HB.out.cell (World.block_lt_of_cell? w _ hw393_2)).trans hw393_2), ((HB.out.cell (World.block_lt_of_cell? w _ hw393_3)).trans hw393_3), ((HB.out.cell (World.block_lt_of_cell? w _ hw393_4)).trans hw393_4), ((HB.out.cell (World.block_lt_of_cell? w _ hw393_5)).trans hw393_5), ((HB.out.cell (World.block_lt_of_cell? w _ hw393_6)).trans hw393_6), ((HB.out.cell (World.block_lt_of_cell? w _ hw393_7)).trans hw393_7)⟩ (fun hHeld => ?_)
         clear hK K
         refine norm_ (a' := ?_) ?_ ?_
         rotate_left
         ·show Act.put _ (some 47) _ = _
          simp only [Act.put, List.setIfInBounds_toArray, List.set_cons_zero, List.set_cons_succ, i64_w, i32_w]
          rfl
         refine pS 7 (some 48) HT_ ?_
         refine pS 9 (some 50) HT_ ?_
         refine pS 10 (some 51) HT_ ?_
         refine pS 12 (some 53) HT_ ?_
         refine tS 8 (some 49) HT_ HW_ hHeld ?_
         refine tS 11 (some 52) HT_ HW_ hHeld ?_
         refine pS 13 (some 54) HT_ ?_
         refine pS 14 (some 55) HT_ ?_
         refine tS 15 (some 56) HT_ HW_ hHeld ?_
         refine oS 16 (some 57) HT_ (fun K hK => ?_)
         refine goes_ Try.func35 (by kernel_rfl) rfl #[.agg #[.slice A0_0 l0_0.length c0_0, .slice A0_1 l0_1.length c0_1, .slice A0_2 l0_2.length c0_2, .slice (some ad391) l0_3.length c0_3, .slice A0_4 l0_4.length c0_4], .int .i64 x7_2, .int .i64 ((rd_T42 l0_3 x8_3).f1)] (by rfl) rfl rfl tL ?_
         with_reducible refine (r08_On.calls k4 _ _ l0_0 _ _ l0_1 _ _ l0_2 _ _ l0_3 _ _ l0_4 x7_2 ((rd_T42 l0_3 x8_3).f1) true _ (sC HR0_0 HB) HC0_0.out (sC HR0_1 HB) HC0_1.out (sC HR0_2 HB) HC0_2.out (sC HR0_3 HB) HC0_3.out (sC HR0_4 HB) HC0_4.out A29.out).mono ?_
         rintro e w56 ⟨rfl, hb⟩
         refine ⟨_, rfl, ?_⟩
         replace HO_6 := Aside0.mk (Kd.R_below (kR HO_6) hb)
         replace BK385 := bK BK385 hb
         replace HB := bS (kB1 HB GE385) hb
         (try clear hb)
         (try clear hb2)
         (try clear hk)
         (try clear hi)
         refine hK.out _ _ ⟨(blk_cell BK385.out 0).trans rfl, (blk_cell BK385.out 1).trans rfl, (blk_cell BK385.out 2).trans rfl, (blk_cell BK385.out 3).trans rfl, (blk_cell BK385.out 4).trans rfl, ((HB.out.cell (World.block_lt_of_cell? w _ hw391_0)).trans hw391_0), ((HB.out.cell (World.block_lt_of_cell? w _ hw391_1)).trans hw391_1), ((HB.out.cell (World.block_lt_of_cell? w _ hw391_2)).trans hw391_2), ((HB.out.cell (World.block_lt_of_cell? w _ hw391_3)).trans hw391_3), ((HB.out.cell (World.block_lt_of_cell? w _ hw391_4)).trans hw391_4), ((HB.out.cell (World.block_lt_of_cell? w _ hw391_5)).trans hw391_5), ((HB.out.cell (World.block_lt_of_cell? w _ hw391_6)).trans hw391_6), ((HB.out.cell (World.block_lt_of_cell? w _ hw391_7)).trans hw391_7), ((HB.out.cell (World.block_lt_of_cell? w _ hw393_0)).trans hw393_0), ((HB.out.cell (World.block_lt_of_cell? w _ hw393_1)).trans hw393_1), ((HB.out.cell (World.block_lt_of_cell? w _ hw393_2)).trans hw393_2), ((HB.out.cell (World.block_lt_of_cell? w _ hw393_3)).trans hw393_3), ((HB.out.cell (World.block_lt_of_cell? w _ hw393_4)).trans hw393_4), ((HB.out.cell (World.block_lt_of_cell? w _ hw393_5)).trans hw393_5), ((HB.out.cell (World.block_lt_of_cell? w _ hw393_6)).trans hw393_6), ((HB.out.cell (World.block_lt_of_cell? w _ hw393_7)).trans hw393_7)⟩ (fun hHeld => ?_)
         clear hK K
         refine norm_ (a' := ?_) ?_ ?_
         rotate_left
         ·show Act.put _ (some 57) _ = _
          simp only [Act.put, List.setIfInBounds_toArray, List.set_cons_zero, List.set_cons_succ, i64_w, i32_w]
          rfl
         refine pS 17 (some 58) HT_ ?_
         refine done_ (done_of HT_.out (by kernel_rfl)) ?_
         try go_wp2
         replace HO_6 := Aside0.mk (Kd.R_drew HO_6.out)
         replace BK385 := Aside0.mk (blk_drew BK385.out)
         replace HB := Aside0.mk (below_drew1 HB.out)
         obtain ⟨Ao58, co58, eo58⟩ := Kd.R_slice HO_6.out
         (first | subst eo58 | (injection eo58 with f1_ f2_ f3_; have f4_ := f1_.symm; have f5_ := f3_.symm; clear f1_ f2_ f3_; subst f4_; subst f5_))
         have p395 : 0 ≤ (x7_2 : Int) := tD
         have q395 : x7_2 < (x6_4.length : Int) := tD
         obtain ⟨ad395, e395, hx395_0, hx395_1, hx395_2⟩ := at_T55 (Kd.R_reads' HO_6.out).2.2 x7_2 p395 q395
         cases e395
         replace p395 := eq_true p395
         replace q395 := eq_true q395
         have p400 : 0 ≤ (x8_3 : Int) := tD
         have q400 : x8_3 < (l1.length : Int) := tD
         obtain ⟨ad400, e400, hx400_0⟩ := Kd.at_int HR1.out x8_3 p400 q400
         have hw400_0 := hx400_0
         cases e400
         replace hx400_0 := cB HB hx400_0
         replace p400 := eq_true p400
         replace q400 := eq_true q400
         have p53 : 0 ≤ (x7_2 : Int) := tD
         have q53 : (x7_2 : Int) < ((x6_4.length : Int) : Int) := tD
         obtain ⟨go53, co53, eo53, gb53, gl53, cl53, HG53⟩ := Kd.R_form HO_6.out (by omega)
         (first | cases eo53 | (injection eo53 with ea_ en_ ec_; (first | subst ea_ | (injection ea_ with ea_; subst ea_)); subst ec_; clear en_))
         have GB53 := Aside0.mk gb53
         have GG53 := Aside0.mk HG53
         clear gb53 gl53 HG53
         (first | simp only [add_plain] at hx395_0 | skip)
         (first | simp only [add_plain] at hx395_1 | skip)
         (first | simp only [add_plain] at hx395_2 | skip)
         obtain ⟨ce53, hcl53, hM53, hcc53, hfr53⟩ := Kd.R_elem HO_6.out z55 (x7_2 : Int) p53 q53
         obtain rfl := k55_openM hM53
         have hx53_0 : World.cell? _ ⟨go53, (x7_2 : Int).toNat * 3, none⟩ = some (.int .i64 ((rd_T55 x6_4 x7_2).f0)) := hcc53 0 _ rfl
         have hx53_1 : World.cell? _ ⟨go53, (x7_2 : Int).toNat * 3 + 1, none⟩ = some (.int .i64 ((rd_T55 x6_4 x7_2).f1)) := hcc53 1 _ rfl
         have hx53_2 : World.cell? _ ⟨go53, (x7_2 : Int).toNat * 3 + 2, none⟩ = some (.int .i64 ((rd_T55 x6_4 x7_2).f2)) := hcc53 2 _ rfl
         have hf53_0 : World.frozen? _ ⟨go53, (x7_2 : Int).toNat * 3, none⟩ = false := hfr53 0
         have hf53_1 : World.frozen? _ ⟨go53, (x7_2 : Int).toNat * 3 + 1, none⟩ = false := hfr53 1
         have hf53_2 : World.frozen? _ ⟨go53, (x7_2 : Int).toNat * 3 + 2, none⟩ = false := hfr53 2
         clear hcl53 hcc53 hfr53 hM53
         replace p53 := eq_true p53
         replace q53 := eq_true q53
         obtain ⟨ce59, hcl59, hM59, hcc59, hfr59⟩ := Kd.R_elem HO_6.out z55 (x7_2 : Int) (tD) (by have h_ : (x7_2 : Int) < ((x6_4.length : Int) : Int) := tD; first | exact h_ | (have e_ := (Kd.R_reads' HO_6.out).1; omega) | simpa using h_)
         obtain rfl := k55_openM hM59
         have HP59 := (Kd.R_seg HO_6.out (x7_2 : Int) (tD) (by have h_ : (x7_2 : Int) < ((x6_4.length : Int) : Int) := tD; first | exact h_ | (have e_ := (Kd.R_reads' HO_6.out).1; omega) | simpa using h_) (seg := [.int .i64 (wrap64 (((rd_T55 x6_4 x7_2).f2) + (rd l1 x8_3)))]) (j := 2) hcl59 hcc59 (show 3 ≤ 3 from by decide) (x' := (⟨(rd_T55 x6_4 x7_2).f0, (rd_T55 x6_4 x7_2).f1, wrap64 (((rd_T55 x6_4 x7_2).f2) + (rd l1 x8_3))⟩ : S55)) (k55_mkM _ _ _ (⟨(rd_T55 x6_4 x7_2).f0, (rd_T55 x6_4 x7_2).f1, wrap64 (((rd_T55 x6_4 x7_2).f2) + (rd l1 x8_3))⟩ : S55) ) (fun _ hk => hk)).1
         rw [← Ny401.out] at HP59
         have HQ59 := Aside0.mk HP59
         clear hcl59 hcc59 hfr59 hM59 HP59
         refine start_ (n := 17) (S := fun w' => w'.cell? ⟨go53, ((x7_2).toNat * 3), none⟩ = some (.int .i64 ((rd_T55 x6_4 x7_2).f0)) ∧ w'.cell? ⟨go53, ((x7_2).toNat * 3) + 1, none⟩ = some (.int .i64 ((rd_T55 x6_4 x7_2).f1)) ∧ w'.cell? ⟨go53, ((x7_2).toNat * 3) + 2, none⟩ = some (.int .i64 ((rd_T55 x6_4 x7_2).f2)) ∧ w'.cell? (ad400.add (x8_3).toNat) = some (.int .i64 (rd l1 x8_3))) (ds := [16]) #[false, false, false, false, false, false, false, false, false, false, false, false, false, false, false, false, false] (by kernel_rfl) rfl rfl ⟨hx395_0, hx395_1, hx395_2, ((HB.out.cell (World.block_lt_of_cell? w _ hw400_0)).trans hw400_0)⟩ (fun hHeld => ?_); refine with_tabW r08_Loads.tab14 r08_Loads.bits14 (fun HT_ HW_ => ?_)
         generalize w56.drew = w57 at HO_6 BK385 HB GG53 HQ59 hf53_0 hf53_1 hf53_2 hx395_0 hx395_1 hx395_2 hx400_0 hx53_0 hx53_1 hx53_2 hHeld ⊢
         refine pS 0 (some 59) HT_ ?_
         refine pS 1 (some 60) HT_ ?_
         refine pS 2 (some 61) HT_ ?_
         refine pS 3 (some 62) HT_ ?_
         refine pS 4 (some 63) HT_ ?_
         refine pS 5 (some 64) HT_ ?_
         refine pS 6 (some 65) HT_ ?_
         refine pS 7 (some 66) HT_ ?_
         refine pS 9 (some 68) HT_ ?_
         refine pS 10 (some 69) HT_ ?_
         refine pS 11 (some 70) HT_ ?_
         refine pS 14 (some 73) HT_ ?_
         refine tS 8 (some 67) HT_ HW_ hHeld ?_
         refine tS 12 (some 71) HT_ HW_ hHeld ?_
         refine pS 13 (some 72) HT_ ?_
         refine pS 15 (some 74) HT_ ?_
         refine lS 16 none HT_ (fun K hK => ?_)
         refine skip_ (w1 := ?_) (by rfl) rfl ?_ ?_
         rotate_left
         ·go_simp
          rfl
         refine hK.out _ _ ?_
         clear hK K
         refine done_ (done_of HT_.out (by kernel_rfl)) ?_
         try go_wp2
         go_roundg k4
         case measure => have := HJ2.out; have := HK2.out; have := HK3.out; have := HK4.out; omega
         case rel => exact ⟨(y401), (wrap64 (x9_4 + 1)), tQ, H', ⟨kO4 HJ2 HK2 HK3 HK4⟩, ⟨kR HQ59⟩, ⟨by (with_reducible repeat (first | refine blk_drewN ?_ _ | refine blk_drew ?_ | refine blk_alloc ?_ _)); refine blk_far ?_ (by have h_ := Kd.R_ne HO_6.out BK385.out (by decide); intro e_; exact h_ (by rw [e_]; rfl)) _; (with_reducible repeat (first | refine blk_drewN ?_ _ | refine blk_drew ?_ | refine blk_alloc ?_ _)); exact BK385.out⟩, ⟨by repeat (first | (with_reducible first | exact HB.out | apply below_alloc | apply pw_below_drewN | apply below_drew1 | refine below_set ?_ GB53.out | refine below_set ?_ GE385.out) | exact HB.out)⟩⟩
end Go.Proofs.Ytpdmnineampimaa.Q
