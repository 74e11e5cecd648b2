import Derived.Test.YtpdmnineampimaaYe
import Derived.Test.YtpdmnineampimaaYQx33
import Derived.Test.YtpdmnineampimaaYQx38
import Derived.Test.YtpdmnineampimaaYQx39
import Derived.Test.YtpdmnineampimaaYQx40
set_option linter.unusedVariables false
set_option linter.unusedSimpArgs false
namespace Go.Proofs.Ytpdmnineampimaa.Q
open Go.RowKit Go.Proofs.YtpdmnineampimaaW.PrintWords Go.Proofs.YtpdmnineampimaaW.PrintLast Go.Proofs.YtpdmnineampimaaW.PrintMore
attribute [local go_sem] max2_int min2_int max_two min_two max_three min_three max_four min_four
mutual
def r04_Valid.j0 : Nat → Bool → List (S48) → List (S62) → List (S84) → List (S42) → List (S87) → Option (Bool)
  | 0, _, _, _, _, _, _ => none
  | k + 1, x43, x355000, x355001, x355002, x355003, x355004 => if x43 = true then (some false) else (r04_Valid.l0 k 0 x355000 x355001 x355002 x355003 x355004)
def r04_Valid.l0 : Nat → Int → List (S48) → List (S62) → List (S84) → List (S42) → List (S87) → Option (Bool)
  | 0, _, _, _, _, _, _ => none
  | k + 1, x3, x355000, x355001, x355002, x355003, x355004 => if x3 < (x355000.length : Int) then (if 0 ≤ x3 then ((r04_conductor.f k ((rd_T48 x355000 x3).f0) ((rd_T48 x355000 x3).f1) ((rd_T48 x355000 x3).f2) ((rd_T48 x355000 x3).f3) ((rd_T48 x355000 x3).f4.f0) ((rd_T48 x355000 x3).f4.f1) ((rd_T48 x355000 x3).f5.f0) ((rd_T48 x355000 x3).f5.f1) ((rd_T48 x355000 x3).f5.f2) ((rd_T48 x355000 x3).f5.f3) ((rd_T48 x355000 x3).f5.f4) x3).bind fun t358 => (if t358 = true then (r04_Valid.l0 k (wrap64 (x3 + 1)) x355000 x355001 x355002 x355003 x355004) else (some false))) else (none)) else (r04_Valid.l1 k 0 x355000 x355001 x355002 x355003 x355004)
def r04_Valid.l1 : Nat → Int → List (S48) → List (S62) → List (S84) → List (S42) → List (S87) → Option (Bool)
  | 0, _, _, _, _, _, _ => none
  | k + 1, x4, x355000, x355001, x355002, x355003, x355004 => if x4 < (x355002.length : Int) then (if 0 ≤ x4 then ((r04_inside.f ((rd_T84 x355002 x4).f1) 0 (wrap64 ((x355001.length : Int) - 1))).bind fun t361 => (if t361 = true then ((r04_inside.f ((rd_T84 x355002 x4).f2) 1 9).bind fun t362 => (if t362 = true then ((r04_inside.f ((rd_T84 x355002 x4).f3) 1 1000000).bind fun t363 => (r04_Valid.j3 k x4 (!t363) x355000 x355001 x355002 x355003 x355004 ((rd_T84 x355002 x4).f0) ((rd_T84 x355002 x4).f1) ((rd_T84 x355002 x4).f2) ((rd_T84 x355002 x4).f3))) else (r04_Valid.j3 k x4 true x355000 x355001 x355002 x355003 x355004 ((rd_T84 x355002 x4).f0) ((rd_T84 x355002 x4).f1) ((rd_T84 x355002 x4).f2) ((rd_T84 x355002 x4).f3)))) else (r04_Valid.j3 k x4 true x355000 x355001 x355002 x355003 x355004 ((rd_T84 x355002 x4).f0) ((rd_T84 x355002 x4).f1) ((rd_T84 x355002 x4).f2) ((rd_T84 x355002 x4).f3)))) else (none)) else (r04_Valid.l3 k 0 x355000 x355001 x355002 x355003 x355004)
def r04_Valid.j3 : Nat → Int → Bool → List (S48) → List (S62) → List (S84) → List (S42) → List (S87) → ByteArray → Int → Int → Int → Option (Bool)
  | 0, _, _, _, _, _, _, _, _, _, _, _ => none
  | k + 1, x4, x90, x355000, x355001, x355002, x355003, x355004, x361000, x361001, x361002, x361003 => if x90 = true then (some false) else (r04_Valid.l2 k x4 0 x355000 x355001 x355002 x355003 x355004 x361000 x361001 x361002 x361003)
def r04_Valid.l2 : Nat → Int → Int → List (S48) → List (S62) → List (S84) → List (S42) → List (S87) → ByteArray → Int → Int → Int → Option (Bool)
  | 0, _, _, _, _, _, _, _, _, _, _, _ => none
  | k + 1, x4, x6, x355000, x355001, x355002, x355003, x355004, x361000, x361001, x361002, x361003 => if x6 < x4 then (if 0 ≤ x6 then (if x6 < (x355002.length : Int) then (if ((rd_T84 x355002 x6).f3) = x361003 then (some false) else (r04_Valid.l2 k x4 (wrap64 (x6 + 1)) x355000 x355001 x355002 x355003 x355004 x361000 x361001 x361002 x361003)) else (none)) else (none)) else (r04_Valid.l1 k (wrap64 (x4 + 1)) x355000 x355001 x355002 x355003 x355004)
def r04_Valid.l3 : Nat → Int → List (S48) → List (S62) → List (S84) → List (S42) → List (S87) → Option (Bool)
  | 0, _, _, _, _, _, _ => none
  | k + 1, x7, x355000, x355001, x355002, x355003, x355004 => if x7 < (x355003.length : Int) then (if 0 ≤ x7 then ((r04_Charger.f ((rd_T42 x355003 x7).f0) ((rd_T42 x355003 x7).f1) ((rd_T42 x355003 x7).f2) ((rd_T42 x355003 x7).f3) ((rd_T42 x355003 x7).f4) ((rd_T42 x355003 x7).f5) ((rd_T42 x355003 x7).f6) ((rd_T42 x355003 x7).f7)).bind fun t367 => (if t367 = true then ((r04_inside.f ((rd_T42 x355003 x7).f1) 0 (wrap64 ((x355000.length : Int) - 1))).bind fun t368 => (if t368 = true then ((r04_inside.f ((rd_T42 x355003 x7).f7) 0 (wrap64 ((x355001.length : Int) - 1))).bind fun t369 => (r04_Valid.j6 k x7 (!t369) x355000 x355001 x355002 x355003 x355004)) else (r04_Valid.j6 k x7 true x355000 x355001 x355002 x355003 x355004))) else (r04_Valid.j6 k x7 true x355000 x355001 x355002 x355003 x355004))) else (none)) else (r04_Valid.l4 k 0 x355000 x355001 x355002 x355003 x355004)
def r04_Valid.j6 : Nat → Int → Bool → List (S48) → List (S62) → List (S84) → List (S42) → List (S87) → Option (Bool)
  | 0, _, _, _, _, _, _, _ => none
  | k + 1, x7, x139, x355000, x355001, x355002, x355003, x355004 => if x139 = true then (some false) else (r04_Valid.l3 k (wrap64 (x7 + 1)) x355000 x355001 x355002 x355003 x355004)
def r04_Valid.l4 : Nat → Int → List (S48) → List (S62) → List (S84) → List (S42) → List (S87) → Option (Bool)
  | 0, _, _, _, _, _, _ => none
  | k + 1, x9, x355000, x355001, x355002, x355003, x355004 => if x9 < (x355004.length : Int) then (if 0 ≤ x9 then ((r04_inside.f ((rd_T87 x355004 x9).f1) 0 (wrap64 ((x355003.length : Int) - 1))).bind fun t371 => (if t371 = true then (r04_Valid.l4 k (wrap64 (x9 + 1)) x355000 x355001 x355002 x355003 x355004) else (some false))) else (none)) else (some true)
end
def r04_Valid.f (k : Nat) (l0_0 : List (S48)) (l0_1 : List (S62)) (l0_2 : List (S84)) (l0_3 : List (S42)) (l0_4 : List (S87)) : Option (Bool) := (r04_inside.f (l0_0.length : Int) 1 16).bind fun t355 => (if t355 = true then (if (l0_1.length : Int) > 8 then (r04_Valid.j0 k true l0_0 l0_1 l0_2 l0_3 l0_4) else (if (l0_2.length : Int) > 32 then (r04_Valid.j0 k true l0_0 l0_1 l0_2 l0_3 l0_4) else (if (l0_3.length : Int) > 16 then (r04_Valid.j0 k true l0_0 l0_1 l0_2 l0_3 l0_4) else (if (l0_4.length : Int) > 24 then (r04_Valid.j0 k true l0_0 l0_1 l0_2 l0_3 l0_4) else ((r04_names.f k l0_0 l0_1 l0_2 l0_3 l0_4).bind fun t356 => (r04_Valid.j0 k (!t356) l0_0 l0_1 l0_2 l0_3 l0_4)))))) else (r04_Valid.j0 k true l0_0 l0_1 l0_2 l0_3 l0_4))
theorem r04_Valid.mono_l : ∀ k, (∀ y0 y1 y2 y3 y4 y5, LeO (r04_Valid.j0 k y0 y1 y2 y3 y4 y5) (r04_Valid.j0 (k + 1) y0 y1 y2 y3 y4 y5)) ∧ (∀ y0 y1 y2 y3 y4 y5, LeO (r04_Valid.l0 k y0 y1 y2 y3 y4 y5) (r04_Valid.l0 (k + 1) y0 y1 y2 y3 y4 y5)) ∧ (∀ y0 y1 y2 y3 y4 y5, LeO (r04_Valid.l1 k y0 y1 y2 y3 y4 y5) (r04_Valid.l1 (k + 1) y0 y1 y2 y3 y4 y5)) ∧ (∀ y0 y1 y2 y3 y4 y5 y6 y7 y8 y9 y10, LeO (r04_Valid.j3 k y0 y1 y2 y3 y4 y5 y6 y7 y8 y9 y10) (r04_Valid.j3 (k + 1) y0 y1 y2 y3 y4 y5 y6 y7 y8 y9 y10)) ∧ (∀ y0 y1 y2 y3 y4 y5 y6 y7 y8 y9 y10, LeO (r04_Valid.l2 k y0 y1 y2 y3 y4 y5 y6 y7 y8 y9 y10) (r04_Valid.l2 (k + 1) y0 y1 y2 y3 y4 y5 y6 y7 y8 y9 y10)) ∧ (∀ y0 y1 y2 y3 y4 y5, LeO (r04_Valid.l3 k y0 y1 y2 y3 y4 y5) (r04_Valid.l3 (k + 1) y0 y1 y2 y3 y4 y5)) ∧ (∀ y0 y1 y2 y3 y4 y5 y6, LeO (r04_Valid.j6 k y0 y1 y2 y3 y4 y5 y6) (r04_Valid.j6 (k + 1) y0 y1 y2 y3 y4 y5 y6)) ∧ (∀ y0 y1 y2 y3 y4 y5, LeO (r04_Valid.l4 k y0 y1 y2 y3 y4 y5) (r04_Valid.l4 (k + 1) y0 y1 y2 y3 y4 y5))
  | 0 => ⟨fun _ _ _ _ _ _ r h => by simp [r04_Valid.j0] at h, fun _ _ _ _ _ _ r h => by simp [r04_Valid.l0] at h, fun _ _ _ _ _ _ r h => by simp [r04_Valid.l1] at h, fun _ _ _ _ _ _ _ _ _ _ _ r h => by simp [r04_Valid.j3] at h, fun _ _ _ _ _ _ _ _ _ _ _ r h => by simp [r04_Valid.l2] at h, fun _ _ _ _ _ _ r h => by simp [r04_Valid.l3] at h, fun _ _ _ _ _ _ _ r h => by simp [r04_Valid.j6] at h, fun _ _ _ _ _ _ r h => by simp [r04_Valid.l4] at h⟩
  | k + 1 => by
    obtain ⟨ih0, ih1, ih2, ih3, ih4, ih5, ih6, ih7⟩ := r04_Valid.mono_l k
    refine ⟨?_, ?_, ?_, ?_, ?_, ?_, ?_, ?_⟩
    · intro y0 y1 y2 y3 y4 y5
      unfold r04_Valid.j0
      repeat' first | (with_reducible apply ih0) | (with_reducible apply ih1) | (with_reducible apply ih2) | (with_reducible apply ih3) | (with_reducible apply ih4) | (with_reducible apply ih5) | (with_reducible apply ih6) | (with_reducible apply ih7) | (with_reducible exact r04_conductor.mono _ _ _ _ _ _ _ _ _ _ _ _ _) | (with_reducible exact r04_names.mono _ _ _ _ _ _) | (with_reducible exact LeO.refl _) | (with_reducible exact LeO.none _) | (with_reducible refine LeO.ite ?_ ?_) | (with_reducible refine LeO.bind ?_ (fun _ => ?_))
    · intro y0 y1 y2 y3 y4 y5
      unfold r04_Valid.l0
      repeat' first | (with_reducible apply ih0) | (with_reducible apply ih1) | (with_reducible apply ih2) | (with_reducible apply ih3) | (with_reducible apply ih4) | (with_reducible apply ih5) | (with_reducible apply ih6) | (with_reducible apply ih7) | (with_reducible exact r04_conductor.mono _ _ _ _ _ _ _ _ _ _ _ _ _) | (with_reducible exact r04_names.mono _ _ _ _ _ _) | (with_reducible exact LeO.refl _) | (with_reducible exact LeO.none _) | (with_reducible refine LeO.ite ?_ ?_) | (with_reducible refine LeO.bind ?_ (fun _ => ?_))
    · intro y0 y1 y2 y3 y4 y5
      unfold r04_Valid.l1
      repeat' first | (with_reducible apply ih0) | (with_reducible apply ih1) | (with_reducible apply ih2) | (with_reducible apply ih3) | (with_reducible apply ih4) | (with_reducible apply ih5) | (with_reducible apply ih6) | (with_reducible apply ih7) | (with_reducible exact r04_conductor.mono _ _ _ _ _ _ _ _ _ _ _ _ _) | (with_reducible exact r04_names.mono _ _ _ _ _ _) | (with_reducible exact LeO.refl _) | (with_reducible exact LeO.none _) | (with_reducible refine LeO.ite ?_ ?_) | (with_reducible refine LeO.bind ?_ (fun _ => ?_))
    · intro y0 y1 y2 y3 y4 y5 y6 y7 y8 y9 y10
      unfold r04_Valid.j3
      repeat' first | (with_reducible apply ih0) | (with_reducible apply ih1) | (with_reducible apply ih2) | (with_reducible apply ih3) | (with_reducible apply ih4) | (with_reducible apply ih5) | (with_reducible apply ih6) | (with_reducible apply ih7) | (with_reducible exact r04_conductor.mono _ _ _ _ _ _ _ _ _ _ _ _ _) | (with_reducible exact r04_names.mono _ _ _ _ _ _) | (with_reducible exact LeO.refl _) | (with_reducible exact LeO.none _) | (with_reducible refine LeO.ite ?_ ?_) | (with_reducible refine LeO.bind ?_ (fun _ => ?_))
    · intro y0 y1 y2 y3 y4 y5 y6 y7 y8 y9 y10
      unfold r04_Valid.l2
      repeat' first | (with_reducible apply ih0) | (with_reducible apply ih1) | (with_reducible apply ih2) | (with_reducible apply ih3) | (with_reducible apply ih4) | (with_reducible apply ih5) | (with_reducible apply ih6) | (with_reducible apply ih7) | (with_reducible exact r04_conductor.mono _ _ _ _ _ _ _ _ _ _ _ _ _) | (with_reducible exact r04_names.mono _ _ _ _ _ _) | (with_reducible exact LeO.refl _) | (with_reducible exact LeO.none _) | (with_reducible refine LeO.ite ?_ ?_) | (with_reducible refine LeO.bind ?_ (fun _ => ?_))
    · intro y0 y1 y2 y3 y4 y5
      unfold r04_Valid.l3
      repeat' first | (with_reducible apply ih0) | (with_reducible apply ih1) | (with_reducible apply ih2) | (with_reducible apply ih3) | (with_reducible apply ih4) | (with_reducible apply ih5) | (with_reducible apply ih6) | (with_reducible apply ih7) | (with_reducible exact r04_conductor.mono _ _ _ _ _ _ _ _ _ _ _ _ _) | (with_reducible exact r04_names.mono _ _ _ _ _ _) | (with_reducible exact LeO.refl _) | (with_reducible exact LeO.none _) | (with_reducible refine LeO.ite ?_ ?_) | (with_reducible refine LeO.bind ?_ (fun _ => ?_))
    · intro y0 y1 y2 y3 y4 y5 y6
      unfold r04_Valid.j6
      repeat' first | (with_reducible apply ih0) | (with_reducible apply ih1) | (with_reducible apply ih2) | (with_reducible apply ih3) | (with_reducible apply ih4) | (with_reducible apply ih5) | (with_reducible apply ih6) | (with_reducible apply ih7) | (with_reducible exact r04_conductor.mono _ _ _ _ _ _ _ _ _ _ _ _ _) | (with_reducible exact r04_names.mono _ _ _ _ _ _) | (with_reducible exact LeO.refl _) | (with_reducible exact LeO.none _) | (with_reducible refine LeO.ite ?_ ?_) | (with_reducible refine LeO.bind ?_ (fun _ => ?_))
    · intro y0 y1 y2 y3 y4 y5
      unfold r04_Valid.l4
      repeat' first | (with_reducible apply ih0) | (with_reducible apply ih1) | (with_reducible apply ih2) | (with_reducible apply ih3) | (with_reducible apply ih4) | (with_reducible apply ih5) | (with_reducible apply ih6) | (with_reducible apply ih7) | (with_reducible exact r04_conductor.mono _ _ _ _ _ _ _ _ _ _ _ _ _) | (with_reducible exact r04_names.mono _ _ _ _ _ _) | (with_reducible exact LeO.refl _) | (with_reducible exact LeO.none _) | (with_reducible refine LeO.ite ?_ ?_) | (with_reducible refine LeO.bind ?_ (fun _ => ?_))
theorem r04_Valid.mono : ∀ a0 a1 a2 a3 a4 k, LeO (r04_Valid.f k a0 a1 a2 a3 a4) (r04_Valid.f (k + 1) a0 a1 a2 a3 a4) := by
  intro a0 a1 a2 a3 a4 k
  obtain ⟨ih0, ih1, ih2, ih3, ih4, ih5, ih6, ih7⟩ := r04_Valid.mono_l k
  unfold r04_Valid.f
  repeat' first | (with_reducible apply ih0) | (with_reducible apply ih1) | (with_reducible apply ih2) | (with_reducible apply ih3) | (with_reducible apply ih4) | (with_reducible apply ih5) | (with_reducible apply ih6) | (with_reducible apply ih7) | (with_reducible exact r04_conductor.mono _ _ _ _ _ _ _ _ _ _ _ _ _) | (with_reducible exact r04_names.mono _ _ _ _ _ _) | (with_reducible exact LeO.refl _) | (with_reducible exact LeO.none _) | (with_reducible refine LeO.ite ?_ ?_) | (with_reducible refine LeO.bind ?_ (fun _ => ?_))
set_option maxHeartbeats 8000000 in
set_option maxRecDepth 100000 in
theorem r04_Valid.calls (k : Nat) (A0_0 : Option Addr) (c0_0 : Nat) (l0_0 : List (S48)) (A0_1 : Option Addr) (c0_1 : Nat) (l0_1 : List (S62)) (A0_2 : Option Addr) (c0_2 : Nat) (l0_2 : List (S84)) (A0_3 : Option Addr) (c0_3 : Nat) (l0_3 : List (S42)) (A0_4 : Option Addr) (c0_4 : Nat) (l0_4 : List (S87)) (r : Bool) (w : World) (hr0_0 : Kd.C k48 w A0_0 l0_0.length l0_0) (hc0_0 : l0_0.length ≤ c0_0) (hr0_1 : Kd.C k62 w A0_1 l0_1.length l0_1) (hc0_1 : l0_1.length ≤ c0_1) (hr0_2 : Kd.C k84 w A0_2 l0_2.length l0_2) (hc0_2 : l0_2.length ≤ c0_2) (hr0_3 : Kd.C k42 w A0_3 l0_3.length l0_3) (hc0_3 : l0_3.length ≤ c0_3) (hr0_4 : Kd.C k87 w A0_4 l0_4.length l0_4) (hc0_4 : l0_4.length ≤ c0_4) (h : r04_Valid.f k l0_0 l0_1 l0_2 l0_3 l0_4 = some r) :
    Calls Try.prog 30 #[.agg #[.slice A0_0 l0_0.length c0_0, .slice A0_1 l0_1.length c0_1, .slice A0_2 l0_2.length c0_2, .slice A0_3 l0_3.length c0_3, .slice A0_4 l0_4.length c0_4]] w fun e w' => e = .returned (.bool r) ∧ Below w.heap.size w w' := by
 have hu28 := Try.underlying28
 have hu48 := Try.underlying48
 have hu84 := Try.underlying84
 have hu42 := Try.underlying42
 have HR0_0 := Aside0.mk hr0_0
 have HC0_0 := Aside0.mk hc0_0
 clear hr0_0 hc0_0
 have HR0_1 := Aside0.mk hr0_1
 have HC0_1 := Aside0.mk hc0_1
 clear hr0_1 hc0_1
 have HR0_2 := Aside0.mk hr0_2
 have HC0_2 := Aside0.mk hc0_2
 clear hr0_2 hc0_2
 have HR0_3 := Aside0.mk hr0_3
 have HC0_3 := Aside0.mk hc0_3
 clear hr0_3 hc0_3
 have HR0_4 := Aside0.mk hr0_4
 have HC0_4 := Aside0.mk hc0_4
 clear hr0_4 hc0_4
 have HB := Aside0.mk (Below.refl w.heap.size w)
 (try unfold r04_Valid.f at h)
 have H := h
 clear h
 have HC2 := Aside0.mk H
 clear H
 go_enter Try.func30, Try.ntmps30
 go_upto_region 1 with (first | ((with_reducible refine gate_dst (N := 1) rfl ?_); (try (refine gate_guard (by rfl) ?_; dsimp only)); refine bE 1 28 #[.slice A0_0 l0_0.length c0_0, .slice A0_1 l0_1.length c0_1, .slice A0_2 l0_2.length c0_2, .slice A0_3 l0_3.length c0_3, .slice A0_4 l0_4.length c0_4] ?_; intro gb354 hg w3 hbox hb; have BK354 := Aside0.mk hbox; have GW354 := gE hg (kB HB); have GE354 := gE hg (kB HB); replace HB := bS (kB HB) hb; clear hb hbox hg))
 repeat (go_quiet (fail))
 (try simp only [Act.put, List.setIfInBounds_toArray, List.set_cons_zero, List.set_cons_succ])
 go_cut [43] (fun v43 wc => ∃ (kq : Nat) (x43_1 : Bool), v43 = .bool x43_1 ∧ Aside0 (r04_Valid.j0 kq x43_1 l0_0 l0_1 l0_2 l0_3 l0_4 = some r) ∧ Aside0 (kq ≤ k) ∧ Aside0 (wc.heap[gb354]? = some (.cells #[(.slice A0_0 l0_0.length c0_0), (.slice A0_1 l0_1.length c0_1), (.slice A0_2 l0_2.length c0_2), (.slice A0_3 l0_3.length c0_3), (.slice A0_4 l0_4.length c0_4)] 28 (0, 0))) ∧ Aside0 (Below w.heap.size w wc))
 case first =>
  have H := HC2.out
  clear HC2
  obtain ⟨t355, A4, H⟩ := bnd H
  by_cases c5 : t355 = true
  rotate_left
  ·replace c5 := Bool.eq_false_iff.mpr c5
   subst c5
   replace H := ifF H
   have H' := Aside0.mk H
   clear H
   obtain ⟨⟨_,_,_,_,_⟩,_,_,_,_,_⟩ := bx5 BK354
   go_wp2_with (first | (go_at_call 46; (with_reducible refine (r04_inside.calls (l0_0.length : Int) 1 16 false _ A4.out).mono ?_); rintro e w' ⟨rfl, ⟨nd, rfl⟩⟩; (try first | exact ⟨rfl, _, World.drewN_drewN _ _ _⟩ | exact ⟨rfl, _, Eq.trans (World.drewN_drewN _ _ _) (congrArg (World.drewN _) (Nat.add_assoc _ _ _))⟩)))
   repeat (go_quiet (fail))
   go_meet
   case rel => exact ⟨_, (true), tQ, H', ⟨tN⟩, ⟨kK BK354⟩, ⟨kB1 HB GE354⟩⟩
  subst c5
  replace H := ifT H
  by_cases c6 : (l0_1.length : Int) > 8
  ·rw [if_pos c6] at H
   have c6b0 : decide (8 < (l0_1.length : Int)) = true := decide_eq_true c6
   have c6b1 : decide (8 < l0_1.length) = true := decide_eq_true (by omega)
   clear c6
   (first | rw [c6b0] | (simp only [i64_w, i32_w]; rw [c6b0]) | skip)
   have H' := Aside0.mk H
   clear H
   obtain ⟨⟨_,_,_,_,_⟩,_,_,_,_,_⟩ := bx5 BK354
   go_wp2_with (first | (go_at_call 46; (with_reducible refine (r04_inside.calls (l0_0.length : Int) 1 16 true _ A4.out).mono ?_); rintro e w' ⟨rfl, ⟨nd, rfl⟩⟩; (try first | exact ⟨rfl, _, World.drewN_drewN _ _ _⟩ | exact ⟨rfl, _, Eq.trans (World.drewN_drewN _ _ _) (congrArg (World.drewN _) (Nat.add_assoc _ _ _))⟩)))
   repeat (go_quiet (fail))
   go_meet
   case rel => exact ⟨_, (true), tQ, H', ⟨tN⟩, ⟨kK BK354⟩, ⟨kB1 HB GE354⟩⟩
  rw [if_neg c6] at H
  have c6b0 : decide (8 < (l0_1.length : Int)) = false := decide_eq_false c6
  have c6b1 : decide (8 < l0_1.length) = false := decide_eq_false (by omega)
  clear c6
  (first | rw [c6b0] | (simp only [i64_w, i32_w]; rw [c6b0]) | skip)
  by_cases c8 : (l0_2.length : Int) > 32
  ·rw [if_pos c8] at H
   have c8b0 : decide (32 < (l0_2.length : Int)) = true := decide_eq_true c8
   have c8b1 : decide (32 < l0_2.length) = true := decide_eq_true (by omega)
   clear c8
   have H' := Aside0.mk H
   clear H
   obtain ⟨⟨_,_,_,_,_⟩,_,_,_,_,_⟩ := bx5 BK354
   go_wp2_with (first | (go_at_call 46; (with_reducible refine (r04_inside.calls (l0_0.length : Int) 1 16 true _ A4.out).mono ?_); rintro e w' ⟨rfl, ⟨nd, rfl⟩⟩; (try first | exact ⟨rfl, _, World.drewN_drewN _ _ _⟩ | exact ⟨rfl, _, Eq.trans (World.drewN_drewN _ _ _) (congrArg (World.drewN _) (Nat.add_assoc _ _ _))⟩)))
   repeat (go_quiet (fail))
   go_meet
   case rel => exact ⟨_, (true), tQ, H', ⟨tN⟩, ⟨kK BK354⟩, ⟨kB1 HB GE354⟩⟩
  rw [if_neg c8] at H
  have c8b0 : decide (32 < (l0_2.length : Int)) = false := decide_eq_false c8
  have c8b1 : decide (32 < l0_2.length) = false := decide_eq_false (by omega)
  clear c8
  by_cases c10 : (l0_3.length : Int) > 16
  ·rw [if_pos c10] at H
   have c10b0 : decide (16 < (l0_3.length : Int)) = true := decide_eq_true c10
   have c10b1 : decide (16 < l0_3.length) = true := decide_eq_true (by omega)
   clear c10
   have H' := Aside0.mk H
   clear H
   obtain ⟨⟨_,_,_,_,_⟩,_,_,_,_,_⟩ := bx5 BK354
   go_wp2_with (first | (go_at_call 46; (with_reducible refine (r04_inside.calls (l0_0.length : Int) 1 16 true _ A4.out).mono ?_); rintro e w' ⟨rfl, ⟨nd, rfl⟩⟩; (try first | exact ⟨rfl, _, World.drewN_drewN _ _ _⟩ | exact ⟨rfl, _, Eq.trans (World.drewN_drewN _ _ _) (congrArg (World.drewN _) (Nat.add_assoc _ _ _))⟩)))
   repeat (go_quiet (fail))
   go_meet
   case rel => exact ⟨_, (true), tQ, H', ⟨tN⟩, ⟨kK BK354⟩, ⟨kB1 HB GE354⟩⟩
  rw [if_neg c10] at H
  have c10b0 : decide (16 < (l0_3.length : Int)) = false := decide_eq_false c10
  have c10b1 : decide (16 < l0_3.length) = false := decide_eq_false (by omega)
  clear c10
  by_cases c12 : (l0_4.length : Int) > 24
  ·rw [if_pos c12] at H
   have c12b0 : decide (24 < (l0_4.length : Int)) = true := decide_eq_true c12
   have c12b1 : decide (24 < l0_4.length) = true := decide_eq_true (by omega)
   clear c12
   have H' := Aside0.mk H
   clear H
   obtain ⟨⟨_,_,_,_,_⟩,_,_,_,_,_⟩ := bx5 BK354
   go_wp2_with (first | (go_at_call 46; (with_reducible refine (r04_inside.calls (l0_0.length : Int) 1 16 true _ A4.out).mono ?_); rintro e w' ⟨rfl, ⟨nd, rfl⟩⟩; (try first | exact ⟨rfl, _, World.drewN_drewN _ _ _⟩ | exact ⟨rfl, _, Eq.trans (World.drewN_drewN _ _ _) (congrArg (World.drewN _) (Nat.add_assoc _ _ _))⟩)))
   repeat (go_quiet (fail))
   go_meet
   case rel => exact ⟨_, (true), tQ, H', ⟨tN⟩, ⟨kK BK354⟩, ⟨kB1 HB GE354⟩⟩
  rw [if_neg c12] at H
  have c12b0 : decide (24 < (l0_4.length : Int)) = false := decide_eq_false c12
  have c12b1 : decide (24 < l0_4.length) = false := decide_eq_false (by omega)
  clear c12
  obtain ⟨t356, A14, H⟩ := bnd H
  have H' := Aside0.mk H
  clear H
  obtain ⟨⟨_,_,_,_,_⟩,_,_,_,_,_⟩ := bx5 BK354
  go_wp2_with (first | (go_at_call 46; (with_reducible refine (r04_inside.calls (l0_0.length : Int) 1 16 true _ A4.out).mono ?_); rintro e w' ⟨rfl, ⟨nd, rfl⟩⟩; (try first | exact ⟨rfl, _, World.drewN_drewN _ _ _⟩ | exact ⟨rfl, _, Eq.trans (World.drewN_drewN _ _ _) (congrArg (World.drewN _) (Nat.add_assoc _ _ _))⟩)) | (go_at_call 47; (with_reducible refine (r04_names.calls k _ _ l0_0 _ _ l0_1 _ _ l0_2 _ _ l0_3 _ _ l0_4 t356 _ (by repeat (first | exact (Kd.C_below HR0_0.out (kB1 HB GE354)) | (with_reducible refine Kd.C_alloc ?_ _) | (with_reducible refine Kd.C_drewN ?_ _) | (with_reducible refine Kd.C_drew ?_))) HC0_0.out (by repeat (first | exact (Kd.C_below HR0_1.out (kB1 HB GE354)) | (with_reducible refine Kd.C_alloc ?_ _) | (with_reducible refine Kd.C_drewN ?_ _) | (with_reducible refine Kd.C_drew ?_))) HC0_1.out (by repeat (first | exact (Kd.C_below HR0_2.out (kB1 HB GE354)) | (with_reducible refine Kd.C_alloc ?_ _) | (with_reducible refine Kd.C_drewN ?_ _) | (with_reducible refine Kd.C_drew ?_))) HC0_2.out (by repeat (first | exact (Kd.C_below HR0_3.out (kB1 HB GE354)) | (with_reducible refine Kd.C_alloc ?_ _) | (with_reducible refine Kd.C_drewN ?_ _) | (with_reducible refine Kd.C_drew ?_))) HC0_3.out (by repeat (first | exact (Kd.C_below HR0_4.out (kB1 HB GE354)) | (with_reducible refine Kd.C_alloc ?_ _) | (with_reducible refine Kd.C_drewN ?_ _) | (with_reducible refine Kd.C_drew ?_))) HC0_4.out A14.out).mono ?_); rintro e w16 ⟨rfl, hb⟩; replace BK354 := bK BK354 hb; replace HB := bS (kB1 HB GE354) hb))
  repeat (go_quiet (fail))
  go_meet
  case rel => exact ⟨_, (!t356), tQ, H', ⟨tN⟩, ⟨kK BK354⟩, ⟨kB1 HB GE354⟩⟩
 case rest =>
  clear HC2
  obtain ⟨kq, x43_1, rfl, HA, HJ1, BK354, HB⟩ := hcut
  cases kq with
  | zero => exact absurd HA.out (by simp [r04_Valid.j0])
  | succ kj1 =>
   have H := HA.out
   clear HA
   simp only [r04_Valid.j0] at H
   by_cases c18 : x43_1 = true
   ·subst c18
    replace H := ifT H
    obtain rfl := Option.some.inj H
    go_wp2
    repeat (go_quiet (fail); try go_wp2)
    go_ret
    exact ⟨tE, kB1 HB GE354⟩
   replace c18 := Bool.eq_false_iff.mpr c18
   subst c18
   replace H := ifF H
   have H' := Aside0.mk H
   clear H
   go_wp2
   repeat (go_quiet (fail); try go_wp2)
   go_loopg [3] kj1 (fun kq v3 w' => ∃ (x3_2 : Int), v3 = .int .i64 x3_2 ∧ Aside0 (r04_Valid.l0 kq x3_2 l0_0 l0_1 l0_2 l0_3 l0_4 = some r) ∧ Aside0 (kq ≤ kj1) ∧ Aside0 (w'.heap[gb354]? = some (.cells #[(.slice A0_0 l0_0.length c0_0), (.slice A0_1 l0_1.length c0_1), (.slice A0_2 l0_2.length c0_2), (.slice A0_3 l0_3.length c0_3), (.slice A0_4 l0_4.length c0_4)] 28 (0, 0))) ∧ Aside0 (Below w.heap.size w w'))
   case atStart => exact ⟨(0), tQ, H', ⟨Nat.le_refl _⟩, ⟨kK BK354⟩, ⟨kB1 HB GE354⟩⟩
   case round =>
    clear H'
    obtain ⟨x3_2, rfl, HA, HK2, BK354, HB⟩ := hrel
    cases gk with
    | zero => exact absurd HA.out (by simp [r04_Valid.l0])
    | succ k2 =>
     have H := HA.out
     clear HA
     simp only [r04_Valid.l0] at H
     by_cases c19 : x3_2 < (l0_0.length : Int)
     ·rw [if_pos c19] at H
      have c19b0 : decide (x3_2 < (l0_0.length : Int)) = true := decide_eq_true c19
      clear c19
      by_cases c20 : 0 ≤ x3_2
      rotate_left
      ·rw [if_neg c20] at H
       exact absurd H (by simp)
      rw [if_pos c20] at H
      have c20b0 : decide (0 ≤ x3_2) = true := decide_eq_true c20
      clear c20
      obtain ⟨t358, A21, H⟩ := bnd H
      by_cases c22 : t358 = true
      rotate_left
      ·replace c22 := Bool.eq_false_iff.mpr c22
       subst c22
       replace H := ifF H
       obtain rfl := Option.some.inj H
       obtain ⟨⟨_,_,_,_,_⟩,_,_,_,_,_⟩ := bx5 BK354
       have p357 : 0 ≤ (x3_2 : Int) := tD
       have q357 : x3_2 < (l0_0.length : Int) := tD
       obtain ⟨ad357, e357, hx357_0, hx357_1, hx357_2, hx357_3, hx357_4, hx357_5, hx357_6, hx357_7, hx357_8, hx357_9, hx357_10⟩ := at_T48 HR0_0.out x3_2 p357 q357
       cases e357
       replace hx357_0 := cB HB hx357_0
       replace hx357_1 := cB HB hx357_1
       replace hx357_2 := cB HB hx357_2
       replace hx357_3 := cB HB hx357_3
       replace hx357_4 := cB HB hx357_4
       replace hx357_5 := cB HB hx357_5
       replace hx357_6 := cB HB hx357_6
       replace hx357_7 := cB HB hx357_7
       replace hx357_8 := cB HB hx357_8
       replace hx357_9 := cB HB hx357_9
       replace hx357_10 := cB HB hx357_10
       replace p357 := eq_true p357
       replace q357 := eq_true q357
       go_wp2_with (first | (go_at_call 48; (with_reducible refine (r04_conductor.calls k2 ((rd_T48 l0_0 x3_2).f0) ((rd_T48 l0_0 x3_2).f1) ((rd_T48 l0_0 x3_2).f2) ((rd_T48 l0_0 x3_2).f3) ((rd_T48 l0_0 x3_2).f4.f0) ((rd_T48 l0_0 x3_2).f4.f1) ((rd_T48 l0_0 x3_2).f5.f0) ((rd_T48 l0_0 x3_2).f5.f1) ((rd_T48 l0_0 x3_2).f5.f2) ((rd_T48 l0_0 x3_2).f5.f3) ((rd_T48 l0_0 x3_2).f5.f4) x3_2 false _ A21.out).mono ?_); rintro e w26 ⟨rfl, hb⟩; replace BK354 := bK BK354 hb; replace HB := bS (kB1 HB GE354) hb))
       repeat (go_quiet (fail))
       go_ret
       exact ⟨tE, kB1 HB GE354⟩
      subst c22
      replace H := ifT H
      have H' := Aside0.mk H
      clear H
      obtain ⟨⟨_,_,_,_,_⟩,_,_,_,_,_⟩ := bx5 BK354
      have p357 : 0 ≤ (x3_2 : Int) := tD
      have q357 : x3_2 < (l0_0.length : Int) := tD
      obtain ⟨ad357, e357, hx357_0, hx357_1, hx357_2, hx357_3, hx357_4, hx357_5, hx357_6, hx357_7, hx357_8, hx357_9, hx357_10⟩ := at_T48 HR0_0.out x3_2 p357 q357
      cases e357
      replace hx357_0 := cB HB hx357_0
      replace hx357_1 := cB HB hx357_1
      replace hx357_2 := cB HB hx357_2
      replace hx357_3 := cB HB hx357_3
      replace hx357_4 := cB HB hx357_4
      replace hx357_5 := cB HB hx357_5
      replace hx357_6 := cB HB hx357_6
      replace hx357_7 := cB HB hx357_7
      replace hx357_8 := cB HB hx357_8
      replace hx357_9 := cB HB hx357_9
      replace hx357_10 := cB HB hx357_10
      replace p357 := eq_true p357
      replace q357 := eq_true q357
      go_wp2_with (first | (go_at_call 48; (with_reducible refine (r04_conductor.calls k2 ((rd_T48 l0_0 x3_2).f0) ((rd_T48 l0_0 x3_2).f1) ((rd_T48 l0_0 x3_2).f2) ((rd_T48 l0_0 x3_2).f3) ((rd_T48 l0_0 x3_2).f4.f0) ((rd_T48 l0_0 x3_2).f4.f1) ((rd_T48 l0_0 x3_2).f5.f0) ((rd_T48 l0_0 x3_2).f5.f1) ((rd_T48 l0_0 x3_2).f5.f2) ((rd_T48 l0_0 x3_2).f5.f3) ((rd_T48 l0_0 x3_2).f5.f4) x3_2 true _ A21.out).mono ?_); rintro e w24 ⟨rfl, hb⟩; replace BK354 := bK BK354 hb; replace HB := bS (kB1 HB GE354) hb))
      repeat (go_quiet (fail))
      go_roundg k2
      case measure => have := HJ1.out; have := HK2.out; omega
      case rel => exact ⟨(wrap64 (x3_2 + 1)), tQ, H', ⟨kO2 HJ1 HK2⟩, ⟨kK BK354⟩, ⟨kB1 HB GE354⟩⟩
     rw [if_neg c19] at H
     have c19b0 : decide (x3_2 < (l0_0.length : Int)) = false := decide_eq_false c19
     clear c19
     have H' := Aside0.mk H
     clear H
     obtain ⟨⟨_,_,_,_,_⟩,_,_,_,_,_⟩ := bx5 BK354
     go_wp2
     repeat (go_quiet (fail); try go_wp2)
     go_loopg [4] k2 (fun kq v4 w' => ∃ (x4_3 : Int), v4 = .int .i64 x4_3 ∧ Aside0 (r04_Valid.l1 kq x4_3 l0_0 l0_1 l0_2 l0_3 l0_4 = some r) ∧ Aside0 (kq ≤ k2) ∧ Aside0 (w'.heap[gb354]? = some (.cells #[(.slice A0_0 l0_0.length c0_0), (.slice A0_1 l0_1.length c0_1), (.slice A0_2 l0_2.length c0_2), (.slice A0_3 l0_3.length c0_3), (.slice A0_4 l0_4.length c0_4)] 28 (0, 0))) ∧ Aside0 (Below w.heap.size w w'))
     case atStart => exact ⟨(0), tQ, H', ⟨Nat.le_refl _⟩, ⟨kK BK354⟩, ⟨kB1 HB GE354⟩⟩
     case round =>
      clear H'
      obtain ⟨x4_3, rfl, HA, HK3, BK354, HB⟩ := hrel
      cases gk with
      | zero => exact absurd HA.out (by simp [r04_Valid.l1])
      | succ k3 =>
       have H := HA.out
       clear HA
       simp only [r04_Valid.l1] at H
       by_cases c28 : x4_3 < (l0_2.length : Int)
       ·rw [if_pos c28] at H
        have c28b0 : decide (x4_3 < (l0_2.length : Int)) = true := decide_eq_true c28
        clear c28
        by_cases c29 : 0 ≤ x4_3
        rotate_left
        ·rw [if_neg c29] at H
         exact absurd H (by simp)
        rw [if_pos c29] at H
        have c29b0 : decide (0 ≤ x4_3) = true := decide_eq_true c29
        clear c29
        have HC30 := Aside0.mk H
        clear H
        obtain ⟨⟨_,_,_,_,_⟩,_,_,_,_,_⟩ := bx5 BK354
        have p359 : 0 ≤ (x4_3 : Int) := tD
        have q359 : x4_3 < (l0_2.length : Int) := tD
        obtain ⟨ad359, e359, hx359_0, hx359_1, hx359_2, hx359_3⟩ := at_T84 HR0_2.out x4_3 p359 q359
        cases e359
        replace hx359_0 := cB HB hx359_0
        replace hx359_1 := cB HB hx359_1
        replace hx359_2 := cB HB hx359_2
        replace hx359_3 := cB HB hx359_3
        replace p359 := eq_true p359
        replace q359 := eq_true q359
        go_upto_region 12 with (first | ((with_reducible refine gate_dst (N := 5) rfl ?_); (try (refine gate_guard (by rfl) ?_; dsimp only)); refine bE 5 84 #[.string (⟨#[]⟩ : ByteArray), .int .i64 0, .int .i64 0, .int .i64 0] ?_; intro gb360 hg w32 hbox hb; have BK360 := Aside0.mk hbox; have GW360 := gE hg (kB1 HB GE354); have GE360 := gE hg (kB1 HB GE354); replace HB := bS (kB1 HB GE354) hb; have NB354_360 := nL hg BK354; have NB360_354 := nG hg BK354; replace BK354 := bK BK354 hb; clear hb hbox hg; have hnb33 := NB360_354.out; have hnc33 := NB354_360.out; obtain ⟨⟨_,_,_,_⟩,_,_,_,_⟩ := bx4 BK360))
        repeat (go_quiet (fail))
        (try simp only [Act.put, List.setIfInBounds_toArray, List.set_cons_zero, List.set_cons_succ])
        go_cut [90] (fun v90 wc => ∃ (kq : Nat) (x90_29 : Bool), v90 = .bool x90_29 ∧ Aside0 (r04_Valid.j3 kq x4_3 x90_29 l0_0 l0_1 l0_2 l0_3 l0_4 ((rd_T84 l0_2 x4_3).f0) ((rd_T84 l0_2 x4_3).f1) ((rd_T84 l0_2 x4_3).f2) ((rd_T84 l0_2 x4_3).f3) = some r) ∧ Aside0 (kq ≤ k3) ∧ Aside0 (wc.heap[gb354]? = some (.cells #[(.slice A0_0 l0_0.length c0_0), (.slice A0_1 l0_1.length c0_1), (.slice (some ad359) l0_2.length c0_2), (.slice A0_3 l0_3.length c0_3), (.slice A0_4 l0_4.length c0_4)] 28 (0, 0))) ∧ Aside0 (wc.heap[gb360]? = some (.cells #[.string ((rd_T84 l0_2 x4_3).f0), .int .i64 ((rd_T84 l0_2 x4_3).f1), .int .i64 ((rd_T84 l0_2 x4_3).f2), .int .i64 ((rd_T84 l0_2 x4_3).f3)] 84 (0, 0))) ∧ Aside0 (Below w.heap.size w wc))
        case first =>
         have H := HC30.out
         clear HC30
         obtain ⟨t361, A35, H⟩ := bnd H
         by_cases c36 : t361 = true
         rotate_left
         ·replace c36 := Bool.eq_false_iff.mpr c36
          subst c36
          replace H := ifF H
          have H' := Aside0.mk H
          clear H
          have hnb46 := NB360_354.out
          have hnc46 := NB354_360.out
          obtain ⟨⟨_,_,_,_⟩,_,_,_,_⟩ := bx4 BK360
          obtain ⟨⟨_,_,_,_,_⟩,_,_,_,_,_⟩ := bx5 BK354
          go_wp2_with (first | (go_at_call 46; (with_reducible refine (r04_inside.calls ((rd_T84 l0_2 x4_3).f1) 0 (wrap64 ((l0_1.length : Int) - 1)) false _ A35.out).mono ?_); rintro e w' ⟨rfl, ⟨nd, rfl⟩⟩; (try first | exact ⟨rfl, _, World.drewN_drewN _ _ _⟩ | exact ⟨rfl, _, Eq.trans (World.drewN_drewN _ _ _) (congrArg (World.drewN _) (Nat.add_assoc _ _ _))⟩)))
          repeat (go_quiet (fail))
          go_meet
          case rel => exact ⟨_, (true), tQ, H', ⟨by have := HJ1.out; have := HK2.out; have := HK3.out; first | omega | exact Nat.le_refl _⟩, ⟨kN BK354⟩, ⟨kN BK360⟩, ⟨kB2 HB GE354 GE360⟩⟩
         subst c36
         replace H := ifT H
         obtain ⟨t362, A37, H⟩ := bnd H
         by_cases c38 : t362 = true
         rotate_left
         ·replace c38 := Bool.eq_false_iff.mpr c38
          subst c38
          replace H := ifF H
          have H' := Aside0.mk H
          clear H
          have hnb43 := NB360_354.out
          have hnc43 := NB354_360.out
          obtain ⟨⟨_,_,_,_⟩,_,_,_,_⟩ := bx4 BK360
          obtain ⟨⟨_,_,_,_,_⟩,_,_,_,_,_⟩ := bx5 BK354
          go_wp2_with (first | (go_at_call 46; (with_reducible refine (r04_inside.calls ((rd_T84 l0_2 x4_3).f1) 0 (wrap64 ((l0_1.length : Int) - 1)) true _ A35.out).mono ?_); rintro e w' ⟨rfl, ⟨nd, rfl⟩⟩; (try first | exact ⟨rfl, _, World.drewN_drewN _ _ _⟩ | exact ⟨rfl, _, Eq.trans (World.drewN_drewN _ _ _) (congrArg (World.drewN _) (Nat.add_assoc _ _ _))⟩)) | (go_at_call 46; (with_reducible refine (r04_inside.calls ((rd_T84 l0_2 x4_3).f2) 1 9 false _ A37.out).mono ?_); rintro e w' ⟨rfl, ⟨nd, rfl⟩⟩; (try first | exact ⟨rfl, _, World.drewN_drewN _ _ _⟩ | exact ⟨rfl, _, Eq.trans (World.drewN_drewN _ _ _) (congrArg (World.drewN _) (Nat.add_assoc _ _ _))⟩)))
          repeat (go_quiet (fail))
          go_meet
          case rel => exact ⟨_, (true), tQ, H', ⟨by have := HJ1.out; have := HK2.out; have := HK3.out; first | omega | exact Nat.le_refl _⟩, ⟨kN BK354⟩, ⟨kN BK360⟩, ⟨kB2 HB GE354 GE360⟩⟩
         subst c38
         replace H := ifT H
         obtain ⟨t363, A39, H⟩ := bnd H
         have H' := Aside0.mk H
         clear H
         have hnb40 := NB360_354.out
         have hnc40 := NB354_360.out
         obtain ⟨⟨_,_,_,_⟩,_,_,_,_⟩ := bx4 BK360
         obtain ⟨⟨_,_,_,_,_⟩,_,_,_,_,_⟩ := bx5 BK354
         go_wp2_with (first | (go_at_call 46; (with_reducible refine (r04_inside.calls ((rd_T84 l0_2 x4_3).f1) 0 (wrap64 ((l0_1.length : Int) - 1)) true _ A35.out).mono ?_); rintro e w' ⟨rfl, ⟨nd, rfl⟩⟩; (try first | exact ⟨rfl, _, World.drewN_drewN _ _ _⟩ | exact ⟨rfl, _, Eq.trans (World.drewN_drewN _ _ _) (congrArg (World.drewN _) (Nat.add_assoc _ _ _))⟩)) | (go_at_call 46; (with_reducible refine (r04_inside.calls ((rd_T84 l0_2 x4_3).f2) 1 9 true _ A37.out).mono ?_); rintro e w' ⟨rfl, ⟨nd, rfl⟩⟩; (try first | exact ⟨rfl, _, World.drewN_drewN _ _ _⟩ | exact ⟨rfl, _, Eq.trans (World.drewN_drewN _ _ _) (congrArg (World.drewN _) (Nat.add_assoc _ _ _))⟩)) | (go_at_call 46; (with_reducible refine (r04_inside.calls ((rd_T84 l0_2 x4_3).f3) 1 1000000 t363 _ A39.out).mono ?_); rintro e w' ⟨rfl, ⟨nd, rfl⟩⟩; (try first | exact ⟨rfl, _, World.drewN_drewN _ _ _⟩ | exact ⟨rfl, _, Eq.trans (World.drewN_drewN _ _ _) (congrArg (World.drewN _) (Nat.add_assoc _ _ _))⟩)))
         repeat (go_quiet (fail))
         go_meet
         case rel => exact ⟨_, (!t363), tQ, H', ⟨by have := HJ1.out; have := HK2.out; have := HK3.out; first | omega | exact Nat.le_refl _⟩, ⟨kN BK354⟩, ⟨kN BK360⟩, ⟨kB2 HB GE354 GE360⟩⟩
        case rest =>
         clear HC30
         obtain ⟨kq, x90_29, rfl, HA, HJ29, BK354, BK360, HB⟩ := hcut
         cases kq with
         | zero => exact absurd HA.out (by simp [r04_Valid.j3])
         | succ kj29 =>
          have H := HA.out
          clear HA
          simp only [r04_Valid.j3] at H
          by_cases c49 : x90_29 = true
          ·subst c49
           replace H := ifT H
           obtain rfl := Option.some.inj H
           go_wp2
           repeat (go_quiet (fail); try go_wp2)
           go_ret
           exact ⟨tE, kB2 HB GE354 GE360⟩
          replace c49 := Bool.eq_false_iff.mpr c49
          subst c49
          replace H := ifF H
          have H' := Aside0.mk H
          clear H
          go_wp2
          repeat (go_quiet (fail); try go_wp2)
          go_loopg [6] kj29 (fun kq v6 w' => ∃ (x6_5 : Int), v6 = .int .i64 x6_5 ∧ Aside0 (r04_Valid.l2 kq x4_3 x6_5 l0_0 l0_1 l0_2 l0_3 l0_4 ((rd_T84 l0_2 x4_3).f0) ((rd_T84 l0_2 x4_3).f1) ((rd_T84 l0_2 x4_3).f2) ((rd_T84 l0_2 x4_3).f3) = some r) ∧ Aside0 (kq ≤ kj29) ∧ Aside0 (w'.heap[gb354]? = some (.cells #[(.slice A0_0 l0_0.length c0_0), (.slice A0_1 l0_1.length c0_1), (.slice (some ad359) l0_2.length c0_2), (.slice A0_3 l0_3.length c0_3), (.slice A0_4 l0_4.length c0_4)] 28 (0, 0))) ∧ Aside0 (w'.heap[gb360]? = some (.cells #[.string ((rd_T84 l0_2 x4_3).f0), .int .i64 ((rd_T84 l0_2 x4_3).f1), .int .i64 ((rd_T84 l0_2 x4_3).f2), .int .i64 ((rd_T84 l0_2 x4_3).f3)] 84 (0, 0))) ∧ Aside0 (Below w.heap.size w w'))
          case atStart => exact ⟨(0), tQ, H', ⟨Nat.le_refl _⟩, ⟨kK BK354⟩, ⟨kK BK360⟩, ⟨kB2 HB GE354 GE360⟩⟩
          case round =>
           clear H'
           obtain ⟨x6_5, rfl, HA, HK5, BK354, BK360, HB⟩ := hrel
           cases gk with
           | zero => exact absurd HA.out (by simp [r04_Valid.l2])
           | succ k5 =>
            have H := HA.out
            clear HA
            simp only [r04_Valid.l2] at H
            by_cases c50 : x6_5 < x4_3
            rotate_left
            ·rw [if_neg c50] at H
             have c50b0 : decide (x6_5 < x4_3) = false := decide_eq_false c50
             clear c50
             have H' := Aside0.mk H
             clear H
             go_wp2
             repeat (go_quiet (fail); try go_wp2)
             go_roundg k5
             case measure => have := HJ1.out; have := HK2.out; have := HK3.out; have := HJ29.out; have := HK5.out; omega
             case rel => exact ⟨(wrap64 (x4_3 + 1)), tQ, H', ⟨by have := HJ1.out; have := HK2.out; have := HK3.out; have := HJ29.out; have := HK5.out; omega⟩, ⟨kK BK354⟩, ⟨kB2 HB GE354 GE360⟩⟩
            rw [if_pos c50] at H
            have c50b0 : decide (x6_5 < x4_3) = true := decide_eq_true c50
            clear c50
            by_cases c51 : 0 ≤ x6_5
            rotate_left
            ·rw [if_neg c51] at H
             exact absurd H (by simp)
            rw [if_pos c51] at H
            have c51b0 : decide (0 ≤ x6_5) = true := decide_eq_true c51
            clear c51
            by_cases c52 : x6_5 < (l0_2.length : Int)
            rotate_left
            ·rw [if_neg c52] at H
             exact absurd H (by simp)
            rw [if_pos c52] at H
            have c52b0 : decide (x6_5 < (l0_2.length : Int)) = true := decide_eq_true c52
            clear c52
            by_cases c53 : ((rd_T84 l0_2 x6_5).f3) = ((rd_T84 l0_2 x4_3).f3)
            ·rw [if_pos c53] at H
             have c53b0 : (((rd_T84 l0_2 x6_5).f3) == ((rd_T84 l0_2 x4_3).f3)) = true := beq_iff_eq.mpr c53
             have c53b1 : (((rd_T84 l0_2 x6_5).f3) != ((rd_T84 l0_2 x4_3).f3)) = false := bne_eq_false_iff_eq.mpr c53
             clear c53
             obtain rfl := Option.some.inj H
             have hnb54 := NB354_360.out
             have hnc54 := NB360_354.out
             obtain ⟨⟨_,_,_,_,_⟩,_,_,_,_,_⟩ := bx5 BK354
             have p364 : 0 ≤ (x6_5 : Int) := tD
             have q364 : x6_5 < (l0_2.length : Int) := tD
             obtain ⟨ad364, e364, hx364_0, hx364_1, hx364_2, hx364_3⟩ := at_T84 HR0_2.out x6_5 p364 q364
             obtain rfl : ad359 = ad364 := (by injection e364)
             replace hx364_0 := cB HB hx364_0
             replace hx364_1 := cB HB hx364_1
             replace hx364_2 := cB HB hx364_2
             replace hx364_3 := cB HB hx364_3
             replace p364 := eq_true p364
             replace q364 := eq_true q364
             obtain ⟨⟨_,_,_,_⟩,_,_,_,_⟩ := bx4 BK360
             go_wp2
             repeat (go_quiet (fail); try go_wp2)
             go_ret
             exact ⟨tE, kB2 HB GE354 GE360⟩
            rw [if_neg c53] at H
            have c53b0 : (((rd_T84 l0_2 x6_5).f3) == ((rd_T84 l0_2 x4_3).f3)) = false := beq_eq_false_iff_ne.mpr c53
            have c53b1 : (((rd_T84 l0_2 x6_5).f3) != ((rd_T84 l0_2 x4_3).f3)) = true := bne_iff_ne.mpr c53
            have H' := Aside0.mk H
            clear H
            have hnb57 := NB354_360.out
            have hnc57 := NB360_354.out
            obtain ⟨⟨_,_,_,_,_⟩,_,_,_,_,_⟩ := bx5 BK354
            have p364 : 0 ≤ (x6_5 : Int) := tD
            have q364 : x6_5 < (l0_2.length : Int) := tD
            obtain ⟨ad364, e364, hx364_0, hx364_1, hx364_2, hx364_3⟩ := at_T84 HR0_2.out x6_5 p364 q364
            obtain rfl : ad359 = ad364 := (by injection e364)
            replace hx364_0 := cB HB hx364_0
            replace hx364_1 := cB HB hx364_1
            replace hx364_2 := cB HB hx364_2
            replace hx364_3 := cB HB hx364_3
            replace p364 := eq_true p364
            replace q364 := eq_true q364
            obtain ⟨⟨_,_,_,_⟩,_,_,_,_⟩ := bx4 BK360
            go_wp2
            repeat (go_quiet (fail); try go_wp2)
            go_roundg k5
            case measure => have := HJ1.out; have := HK2.out; have := HK3.out; have := HJ29.out; have := HK5.out; omega
            case rel => exact ⟨(wrap64 (x6_5 + 1)), tQ, H', ⟨by have := HJ1.out; have := HK2.out; have := HK3.out; have := HJ29.out; have := HK5.out; omega⟩, ⟨kK BK354⟩, ⟨kK BK360⟩, ⟨kB2 HB GE354 GE360⟩⟩
       rw [if_neg c28] at H
       have c28b0 : decide (x4_3 < (l0_2.length : Int)) = false := decide_eq_false c28
       clear c28
       have H' := Aside0.mk H
       clear H
       obtain ⟨⟨_,_,_,_,_⟩,_,_,_,_,_⟩ := bx5 BK354
       go_wp2
       repeat (go_quiet (fail); try go_wp2)
       go_loopg [7] k3 (fun kq v7 w' => ∃ (x7_4 : Int), v7 = .int .i64 x7_4 ∧ Aside0 (r04_Valid.l3 kq x7_4 l0_0 l0_1 l0_2 l0_3 l0_4 = some r) ∧ Aside0 (kq ≤ k3) ∧ Aside0 (w'.heap[gb354]? = some (.cells #[(.slice A0_0 l0_0.length c0_0), (.slice A0_1 l0_1.length c0_1), (.slice A0_2 l0_2.length c0_2), (.slice A0_3 l0_3.length c0_3), (.slice A0_4 l0_4.length c0_4)] 28 (0, 0))) ∧ Aside0 (Below w.heap.size w w'))
       case atStart => exact ⟨(0), tQ, H', ⟨Nat.le_refl _⟩, ⟨kK BK354⟩, ⟨kB1 HB GE354⟩⟩
       case round =>
        clear H'
        obtain ⟨x7_4, rfl, HA, HK4, BK354, HB⟩ := hrel
        cases gk with
        | zero => exact absurd HA.out (by simp [r04_Valid.l3])
        | succ k4 =>
         have H := HA.out
         clear HA
         simp only [r04_Valid.l3] at H
         by_cases c61 : x7_4 < (l0_3.length : Int)
         rotate_left
         ·rw [if_neg c61] at H
          have c61b0 : decide (x7_4 < (l0_3.length : Int)) = false := decide_eq_false c61
          clear c61
          have H' := Aside0.mk H
          clear H
          obtain ⟨⟨_,_,_,_,_⟩,_,_,_,_,_⟩ := bx5 BK354
          go_wp2
          repeat (go_quiet (fail); try go_wp2)
          go_loopg [9] k4 (fun kq v9 w' => ∃ (x9_5 : Int), v9 = .int .i64 x9_5 ∧ Aside0 (r04_Valid.l4 kq x9_5 l0_0 l0_1 l0_2 l0_3 l0_4 = some r) ∧ Aside0 (kq ≤ k4) ∧ Aside0 (w'.heap[gb354]? = some (.cells #[(.slice A0_0 l0_0.length c0_0), (.slice A0_1 l0_1.length c0_1), (.slice A0_2 l0_2.length c0_2), (.slice A0_3 l0_3.length c0_3), (.slice A0_4 l0_4.length c0_4)] 28 (0, 0))) ∧ Aside0 (Below w.heap.size w w'))
          case atStart => exact ⟨(0), tQ, H', ⟨Nat.le_refl _⟩, ⟨kK BK354⟩, ⟨kB1 HB GE354⟩⟩
          case round =>
           clear H'
           obtain ⟨x9_5, rfl, HA, HK5, BK354, HB⟩ := hrel
           cases gk with
           | zero => exact absurd HA.out (by simp [r04_Valid.l4])
           | succ k5 =>
            have H := HA.out
            clear HA
            simp only [r04_Valid.l4] at H
            by_cases c88 : x9_5 < (l0_4.length : Int)
            rotate_left
            ·rw [if_neg c88] at H
             have c88b0 : decide (x9_5 < (l0_4.length : Int)) = false := decide_eq_false c88
             clear c88
             obtain rfl := Option.some.inj H
             obtain ⟨⟨_,_,_,_,_⟩,_,_,_,_,_⟩ := bx5 BK354
             go_wp2
             repeat (go_quiet (fail); try go_wp2)
             go_ret
             exact ⟨tE, kB1 HB GE354⟩
            rw [if_pos c88] at H
            have c88b0 : decide (x9_5 < (l0_4.length : Int)) = true := decide_eq_true c88
            clear c88
            by_cases c89 : 0 ≤ x9_5
            rotate_left
            ·rw [if_neg c89] at H
             exact absurd H (by simp)
            rw [if_pos c89] at H
            have c89b0 : decide (0 ≤ x9_5) = true := decide_eq_true c89
            clear c89
            obtain ⟨t371, A90, H⟩ := bnd H
            by_cases c91 : t371 = true
            rotate_left
            ·replace c91 := Bool.eq_false_iff.mpr c91
             subst c91
             replace H := ifF H
             obtain rfl := Option.some.inj H
             obtain ⟨⟨_,_,_,_,_⟩,_,_,_,_,_⟩ := bx5 BK354
             have p370 : 0 ≤ (x9_5 : Int) := tD
             have q370 : x9_5 < (l0_4.length : Int) := tD
             obtain ⟨ad370, e370, hx370_0, hx370_1⟩ := at_T87 HR0_4.out x9_5 p370 q370
             cases e370
             replace hx370_0 := cB HB hx370_0
             replace hx370_1 := cB HB hx370_1
             replace p370 := eq_true p370
             replace q370 := eq_true q370
             go_wp2_with (first | (go_at_call 46; (with_reducible refine (r04_inside.calls ((rd_T87 l0_4 x9_5).f1) 0 (wrap64 ((l0_3.length : Int) - 1)) false _ A90.out).mono ?_); rintro e w' ⟨rfl, ⟨nd, rfl⟩⟩; (try first | exact ⟨rfl, _, World.drewN_drewN _ _ _⟩ | exact ⟨rfl, _, Eq.trans (World.drewN_drewN _ _ _) (congrArg (World.drewN _) (Nat.add_assoc _ _ _))⟩)))
             repeat (go_quiet (first | (go_at_call 46; (with_reducible refine (r04_inside.calls ((rd_T87 l0_4 x9_5).f1) 0 (wrap64 ((l0_3.length : Int) - 1)) false _ A90.out).mono ?_); rintro e w' ⟨rfl, ⟨nd, rfl⟩⟩; (try first | exact ⟨rfl, _, World.drewN_drewN _ _ _⟩ | exact ⟨rfl, _, Eq.trans (World.drewN_drewN _ _ _) (congrArg (World.drewN _) (Nat.add_assoc _ _ _))⟩))); try go_wp2_with (first | (go_at_call 46; (with_reducible refine (r04_inside.calls ((rd_T87 l0_4 x9_5).f1) 0 (wrap64 ((l0_3.length : Int) - 1)) false _ A90.out).mono ?_); rintro e w' ⟨rfl, ⟨nd, rfl⟩⟩; (try first | exact ⟨rfl, _, World.drewN_drewN _ _ _⟩ | exact ⟨rfl, _, Eq.trans (World.drewN_drewN _ _ _) (congrArg (World.drewN _) (Nat.add_assoc _ _ _))⟩))))
             go_ret
             exact ⟨tE, kB1 HB GE354⟩
            subst c91
            replace H := ifT H
            have H' := Aside0.mk H
            clear H
            obtain ⟨⟨_,_,_,_,_⟩,_,_,_,_,_⟩ := bx5 BK354
            have p370 : 0 ≤ (x9_5 : Int) := tD
            have q370 : x9_5 < (l0_4.length : Int) := tD
            obtain ⟨ad370, e370, hx370_0, hx370_1⟩ := at_T87 HR0_4.out x9_5 p370 q370
            cases e370
            replace hx370_0 := cB HB hx370_0
            replace hx370_1 := cB HB hx370_1
            replace p370 := eq_true p370
            replace q370 := eq_true q370
            go_wp2_with (first | (go_at_call 46; (with_reducible refine (r04_inside.calls ((rd_T87 l0_4 x9_5).f1) 0 (wrap64 ((l0_3.length : Int) - 1)) true _ A90.out).mono ?_); rintro e w' ⟨rfl, ⟨nd, rfl⟩⟩; (try first | exact ⟨rfl, _, World.drewN_drewN _ _ _⟩ | exact ⟨rfl, _, Eq.trans (World.drewN_drewN _ _ _) (congrArg (World.drewN _) (Nat.add_assoc _ _ _))⟩)))
            repeat (go_quiet (first | (go_at_call 46; (with_reducible refine (r04_inside.calls ((rd_T87 l0_4 x9_5).f1) 0 (wrap64 ((l0_3.length : Int) - 1)) true _ A90.out).mono ?_); rintro e w' ⟨rfl, ⟨nd, rfl⟩⟩; (try first | exact ⟨rfl, _, World.drewN_drewN _ _ _⟩ | exact ⟨rfl, _, Eq.trans (World.drewN_drewN _ _ _) (congrArg (World.drewN _) (Nat.add_assoc _ _ _))⟩))); try go_wp2_with (first | (go_at_call 46; (with_reducible refine (r04_inside.calls ((rd_T87 l0_4 x9_5).f1) 0 (wrap64 ((l0_3.length : Int) - 1)) true _ A90.out).mono ?_); rintro e w' ⟨rfl, ⟨nd, rfl⟩⟩; (try first | exact ⟨rfl, _, World.drewN_drewN _ _ _⟩ | exact ⟨rfl, _, Eq.trans (World.drewN_drewN _ _ _) (congrArg (World.drewN _) (Nat.add_assoc _ _ _))⟩))))
            go_roundg k5
            case measure => have := HJ1.out; have := HK2.out; have := HK3.out; have := HK4.out; have := HK5.out; omega
            case rel => exact ⟨(wrap64 (x9_5 + 1)), tQ, H', ⟨by have := HJ1.out; have := HK2.out; have := HK3.out; have := HK4.out; have := HK5.out; omega⟩, ⟨kK BK354⟩, ⟨kB1 HB GE354⟩⟩
         rw [if_pos c61] at H
         have c61b0 : decide (x7_4 < (l0_3.length : Int)) = true := decide_eq_true c61
         clear c61
         by_cases c62 : 0 ≤ x7_4
         rotate_left
         ·rw [if_neg c62] at H
          exact absurd H (by simp)
         rw [if_pos c62] at H
         have c62b0 : decide (0 ≤ x7_4) = true := decide_eq_true c62
         clear c62
         have HC63 := Aside0.mk H
         clear H
         obtain ⟨⟨_,_,_,_,_⟩,_,_,_,_,_⟩ := bx5 BK354
         have p365 : 0 ≤ (x7_4 : Int) := tD
         have q365 : x7_4 < (l0_3.length : Int) := tD
         obtain ⟨ad365, e365, hx365_0, hx365_1, hx365_2, hx365_3, hx365_4, hx365_5, hx365_6, hx365_7⟩ := at_T42 HR0_3.out x7_4 p365 q365
         cases e365
         replace hx365_0 := cB HB hx365_0
         replace hx365_1 := cB HB hx365_1
         replace hx365_2 := cB HB hx365_2
         replace hx365_3 := cB HB hx365_3
         replace hx365_4 := cB HB hx365_4
         replace hx365_5 := cB HB hx365_5
         replace hx365_6 := cB HB hx365_6
         replace hx365_7 := cB HB hx365_7
         replace p365 := eq_true p365
         replace q365 := eq_true q365
         go_upto_region 23 with (first | ((with_reducible refine gate_dst (N := 8) rfl ?_); (try (refine gate_guard (by rfl) ?_; dsimp only)); refine bE 8 42 #[.string (⟨#[]⟩ : ByteArray), .int .i64 0, .int .i64 0, .int .i64 0, .int .i64 0, .int .i64 0, .int .i64 0, .int .i64 0] ?_; intro gb366 hg w65 hbox hb; have BK366 := Aside0.mk hbox; have GW366 := gE hg (kB1 HB GE354); have GE366 := gE hg (kB1 HB GE354); replace HB := bS (kB1 HB GE354) hb; have NB354_366 := nL hg BK354; have NB366_354 := nG hg BK354; replace BK354 := bK BK354 hb; clear hb hbox hg; have hnb66 := NB366_354.out; have hnc66 := NB354_366.out; obtain ⟨⟨_,_,_,_,_,_,_,_⟩,_,_,_,_,_,_,_,_⟩ := bx8 BK366))
         repeat (go_quiet (fail))
         (try simp only [Act.put, List.setIfInBounds_toArray, List.set_cons_zero, List.set_cons_succ])
         go_cut [139] (fun v139 wc => ∃ (kq : Nat) (x139_62 : Bool), v139 = .bool x139_62 ∧ Aside0 (r04_Valid.j6 kq x7_4 x139_62 l0_0 l0_1 l0_2 l0_3 l0_4 = some r) ∧ Aside0 (kq ≤ k4) ∧ Aside0 (wc.heap[gb354]? = some (.cells #[(.slice A0_0 l0_0.length c0_0), (.slice A0_1 l0_1.length c0_1), (.slice A0_2 l0_2.length c0_2), (.slice (some ad365) l0_3.length c0_3), (.slice A0_4 l0_4.length c0_4)] 28 (0, 0))) ∧ Aside0 (wc.heap[gb366]? = some (.cells #[.string ((rd_T42 l0_3 x7_4).f0), .int .i64 ((rd_T42 l0_3 x7_4).f1), .int .i64 ((rd_T42 l0_3 x7_4).f2), .int .i64 ((rd_T42 l0_3 x7_4).f3), .int .i64 ((rd_T42 l0_3 x7_4).f4), .int .i64 ((rd_T42 l0_3 x7_4).f5), .int .i64 ((rd_T42 l0_3 x7_4).f6), .int .i64 ((rd_T42 l0_3 x7_4).f7)] 42 (0, 0))) ∧ Aside0 (Below w.heap.size w wc))
         case first =>
          have H := HC63.out
          clear HC63
          obtain ⟨t367, A68, H⟩ := bnd H
          by_cases c69 : t367 = true
          rotate_left
          ·replace c69 := Bool.eq_false_iff.mpr c69
           subst c69
           replace H := ifF H
           have H' := Aside0.mk H
           clear H
           have hnb83 := NB366_354.out
           have hnc83 := NB354_366.out
           obtain ⟨⟨_,_,_,_,_,_,_,_⟩,_,_,_,_,_,_,_,_⟩ := bx8 BK366
           go_wp2_with (first | (go_at_call 49; (with_reducible refine (r04_Charger.calls ((rd_T42 l0_3 x7_4).f0) ((rd_T42 l0_3 x7_4).f1) ((rd_T42 l0_3 x7_4).f2) ((rd_T42 l0_3 x7_4).f3) ((rd_T42 l0_3 x7_4).f4) ((rd_T42 l0_3 x7_4).f5) ((rd_T42 l0_3 x7_4).f6) ((rd_T42 l0_3 x7_4).f7) false _ A68.out).mono ?_); rintro e w85 ⟨rfl, hb⟩; replace BK354 := Aside0.mk (blk_below (g := gb354) (o := .cells #[.slice A0_0 l0_0.length c0_0, .slice A0_1 l0_1.length c0_1, .slice A0_2 l0_2.length c0_2, .slice (some ad365) l0_3.length c0_3, .slice A0_4 l0_4.length c0_4] 28 (0, 0)) (kN BK354) hb); replace BK366 := Aside0.mk (blk_below (g := gb366) (o := .cells #[.string ((rd_T42 l0_3 x7_4).f0), .int .i64 ((rd_T42 l0_3 x7_4).f1), .int .i64 ((rd_T42 l0_3 x7_4).f2), .int .i64 ((rd_T42 l0_3 x7_4).f3), .int .i64 ((rd_T42 l0_3 x7_4).f4), .int .i64 ((rd_T42 l0_3 x7_4).f5), .int .i64 ((rd_T42 l0_3 x7_4).f6), .int .i64 ((rd_T42 l0_3 x7_4).f7)] 42 (0, 0)) (kN BK366) hb); replace HB := bS (kB2 HB GE354 GE366) hb))
           repeat (go_quiet (fail))
           go_meet
           case rel => exact ⟨_, (true), tQ, H', ⟨by have := HJ1.out; have := HK2.out; have := HK3.out; have := HK4.out; first | omega | exact Nat.le_refl _⟩, ⟨kK BK354⟩, ⟨kK BK366⟩, ⟨kB2 HB GE354 GE366⟩⟩
          subst c69
          replace H := ifT H
          obtain ⟨t368, A70, H⟩ := bnd H
          by_cases c71 : t368 = true
          rotate_left
          ·replace c71 := Bool.eq_false_iff.mpr c71
           subst c71
           replace H := ifF H
           have H' := Aside0.mk H
           clear H
           have hnb78 := NB366_354.out
           have hnc78 := NB354_366.out
           obtain ⟨⟨_,_,_,_,_,_,_,_⟩,_,_,_,_,_,_,_,_⟩ := bx8 BK366
           go_wp2_with (first | (go_at_call 49; (with_reducible refine (r04_Charger.calls ((rd_T42 l0_3 x7_4).f0) ((rd_T42 l0_3 x7_4).f1) ((rd_T42 l0_3 x7_4).f2) ((rd_T42 l0_3 x7_4).f3) ((rd_T42 l0_3 x7_4).f4) ((rd_T42 l0_3 x7_4).f5) ((rd_T42 l0_3 x7_4).f6) ((rd_T42 l0_3 x7_4).f7) true _ A68.out).mono ?_); rintro e w80 ⟨rfl, hb⟩; replace BK354 := Aside0.mk (blk_below (g := gb354) (o := .cells #[.slice A0_0 l0_0.length c0_0, .slice A0_1 l0_1.length c0_1, .slice A0_2 l0_2.length c0_2, .slice (some ad365) l0_3.length c0_3, .slice A0_4 l0_4.length c0_4] 28 (0, 0)) (kN BK354) hb); replace BK366 := Aside0.mk (blk_below (g := gb366) (o := .cells #[.string ((rd_T42 l0_3 x7_4).f0), .int .i64 ((rd_T42 l0_3 x7_4).f1), .int .i64 ((rd_T42 l0_3 x7_4).f2), .int .i64 ((rd_T42 l0_3 x7_4).f3), .int .i64 ((rd_T42 l0_3 x7_4).f4), .int .i64 ((rd_T42 l0_3 x7_4).f5), .int .i64 ((rd_T42 l0_3 x7_4).f6), .int .i64 ((rd_T42 l0_3 x7_4).f7)] 42 (0, 0)) (kN BK366) hb); replace HB := bS (kB2 HB GE354 GE366) hb; obtain ⟨⟨_,_,_,_,_,_,_,_⟩,_,_,_,_,_,_,_,_⟩ := bx8 BK366; obtain ⟨⟨_,_,_,_,_⟩,_,_,_,_,_⟩ := bx5 BK354) | (go_at_call 46; (with_reducible refine (r04_inside.calls ((rd_T42 l0_3 x7_4).f1) 0 (wrap64 ((l0_0.length : Int) - 1)) false _ A70.out).mono ?_); rintro e w' ⟨rfl, ⟨nd, rfl⟩⟩; (try first | exact ⟨rfl, _, World.drewN_drewN _ _ _⟩ | exact ⟨rfl, _, Eq.trans (World.drewN_drewN _ _ _) (congrArg (World.drewN _) (Nat.add_assoc _ _ _))⟩)))
           repeat (go_quiet (fail))
           go_meet
           case rel => exact ⟨_, (true), tQ, H', ⟨by have := HJ1.out; have := HK2.out; have := HK3.out; have := HK4.out; first | omega | exact Nat.le_refl _⟩, ⟨kK BK354⟩, ⟨kK BK366⟩, ⟨kB2 HB GE354 GE366⟩⟩
          subst c71
          replace H := ifT H
          obtain ⟨t369, A72, H⟩ := bnd H
          have H' := Aside0.mk H
          clear H
          have hnb73 := NB366_354.out
          have hnc73 := NB354_366.out
          obtain ⟨⟨_,_,_,_,_,_,_,_⟩,_,_,_,_,_,_,_,_⟩ := bx8 BK366
          go_wp2_with (first | (go_at_call 49; (with_reducible refine (r04_Charger.calls ((rd_T42 l0_3 x7_4).f0) ((rd_T42 l0_3 x7_4).f1) ((rd_T42 l0_3 x7_4).f2) ((rd_T42 l0_3 x7_4).f3) ((rd_T42 l0_3 x7_4).f4) ((rd_T42 l0_3 x7_4).f5) ((rd_T42 l0_3 x7_4).f6) ((rd_T42 l0_3 x7_4).f7) true _ A68.out).mono ?_); rintro e w75 ⟨rfl, hb⟩; replace BK354 := Aside0.mk (blk_below (g := gb354) (o := .cells #[.slice A0_0 l0_0.length c0_0, .slice A0_1 l0_1.length c0_1, .slice A0_2 l0_2.length c0_2, .slice (some ad365) l0_3.length c0_3, .slice A0_4 l0_4.length c0_4] 28 (0, 0)) (kN BK354) hb); replace BK366 := Aside0.mk (blk_below (g := gb366) (o := .cells #[.string ((rd_T42 l0_3 x7_4).f0), .int .i64 ((rd_T42 l0_3 x7_4).f1), .int .i64 ((rd_T42 l0_3 x7_4).f2), .int .i64 ((rd_T42 l0_3 x7_4).f3), .int .i64 ((rd_T42 l0_3 x7_4).f4), .int .i64 ((rd_T42 l0_3 x7_4).f5), .int .i64 ((rd_T42 l0_3 x7_4).f6), .int .i64 ((rd_T42 l0_3 x7_4).f7)] 42 (0, 0)) (kN BK366) hb); replace HB := bS (kB2 HB GE354 GE366) hb; obtain ⟨⟨_,_,_,_,_,_,_,_⟩,_,_,_,_,_,_,_,_⟩ := bx8 BK366; obtain ⟨⟨_,_,_,_,_⟩,_,_,_,_,_⟩ := bx5 BK354) | (go_at_call 46; (with_reducible refine (r04_inside.calls ((rd_T42 l0_3 x7_4).f1) 0 (wrap64 ((l0_0.length : Int) - 1)) true _ A70.out).mono ?_); rintro e w' ⟨rfl, ⟨nd, rfl⟩⟩; (try first | exact ⟨rfl, _, World.drewN_drewN _ _ _⟩ | exact ⟨rfl, _, Eq.trans (World.drewN_drewN _ _ _) (congrArg (World.drewN _) (Nat.add_assoc _ _ _))⟩)) | (go_at_call 46; (with_reducible refine (r04_inside.calls ((rd_T42 l0_3 x7_4).f7) 0 (wrap64 ((l0_1.length : Int) - 1)) t369 _ A72.out).mono ?_); rintro e w' ⟨rfl, ⟨nd, rfl⟩⟩; (try first | exact ⟨rfl, _, World.drewN_drewN _ _ _⟩ | exact ⟨rfl, _, Eq.trans (World.drewN_drewN _ _ _) (congrArg (World.drewN _) (Nat.add_assoc _ _ _))⟩)))
          repeat (go_quiet (fail))
          go_meet
          case rel => exact ⟨_, (!t369), tQ, H', ⟨by have := HJ1.out; have := HK2.out; have := HK3.out; have := HK4.out; first | omega | exact Nat.le_refl _⟩, ⟨kK BK354⟩, ⟨kK BK366⟩, ⟨kB2 HB GE354 GE366⟩⟩
         case rest =>
          clear HC63
          obtain ⟨kq, x139_62, rfl, HA, HJ62, BK354, BK366, HB⟩ := hcut
          cases kq with
          | zero => exact absurd HA.out (by simp [r04_Valid.j6])
          | succ kj62 =>
           have H := HA.out
           clear HA
           simp only [r04_Valid.j6] at H
           by_cases c86 : x139_62 = true
           ·subst c86
            replace H := ifT H
            obtain rfl := Option.some.inj H
            go_wp2
            repeat (go_quiet (fail); try go_wp2)
            go_ret
            exact ⟨tE, kB2 HB GE354 GE366⟩
           replace c86 := Bool.eq_false_iff.mpr c86
           subst c86
           replace H := ifF H
           have H' := Aside0.mk H
           clear H
           go_wp2
           repeat (go_quiet (fail); try go_wp2)
           go_roundg kj62
           case measure => have := HJ1.out; have := HK2.out; have := HK3.out; have := HK4.out; have := HJ62.out; omega
           case rel => exact ⟨(wrap64 (x7_4 + 1)), tQ, H', ⟨by have := HJ1.out; have := HK2.out; have := HK3.out; have := HK4.out; have := HJ62.out; omega⟩, ⟨kK BK354⟩, ⟨kB2 HB GE354 GE366⟩⟩
end Go.Proofs.Ytpdmnineampimaa.Q
