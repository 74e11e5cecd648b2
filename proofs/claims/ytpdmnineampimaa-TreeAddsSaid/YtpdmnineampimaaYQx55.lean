import Derived.Test.YtpdmnineampimaaYe
import Derived.Test.YtpdmnineampimaaYQx31
import Derived.Test.YtpdmnineampimaaYQx48
import Derived.Test.YtpdmnineampimaaYQx52
import Derived.Test.YtpdmnineampimaaYQx53
set_option linter.unusedVariables false
set_option linter.unusedSimpArgs false
namespace Go.Proofs.Ytpdmnineampimaa.Q
open Go.RowKit Go.Proofs.YtpdmnineampimaaW.PrintWords Go.Proofs.YtpdmnineampimaaW.PrintLast Go.Proofs.YtpdmnineampimaaW.PrintMore
attribute [local go_sem] max2_int min2_int max_two min_two max_three min_three max_four min_four
mutual
def w08_TreeAdds.l0 : Nat → List Int → Bool → List Int → List Int → List Int → Int → Int → List (S48) → List (S62) → List (S84) → List (S42) → List (S87) → Option (Bool)
  | 0, _, _, _, _, _, _, _, _, _, _, _, _ => none
  | k + 1, x2, x7, x8, x9, x10, x35, x36, x509000, x509001, x509002, x509003, x509004 => if x36 < x35 then (if x36 < (x2.length : Int) then (if 0 ≤ x36 then (if x36 < (x8.length : Int) then (if (wrap64 (81 - (rd x8 x36))) = 0 then (none) else (if x36 < (x9.length : Int) then ((some (x9.set (x36 : Int).toNat (Int.tmod (wrap64 (rd x2 x36)) (wrap64 (81 - (rd x8 x36)))) : List Int)).bind fun y522 => (if x36 < (x10.length : Int) then (w08_TreeAdds.l0 k x2 x7 x8 y522 (x10.set (x36 : Int).toNat (wrap64 ((rd x8 x36) + (rd y522 x36)))) x35 (wrap64 (x36 + 1)) x509000 x509001 x509002 x509003 x509004) else (none))) else (none))) else (none)) else (none)) else (if 0 ≤ x36 then (if x36 < (x8.length : Int) then (if x36 < (x9.length : Int) then (if x36 < (x10.length : Int) then (w08_TreeAdds.l0 k x2 x7 x8 x9 (x10.set (x36 : Int).toNat (wrap64 ((rd x8 x36) + (rd x9 x36)))) x35 (wrap64 (x36 + 1)) x509000 x509001 x509002 x509003 x509004) else (none)) else (none)) else (none)) else (none))) else ((w08_loads.f x509000 x509001 x509002 x509003 x509004 x8).bind fun bt529 => ((w08_loads.f x509000 x509001 x509002 x509003 x509004 x9).bind fun bt533 => ((w08_loads.f x509000 x509001 x509002 x509003 x509004 x10).bind fun bt537 => (if bt529.2 = true then (if bt533.2 = true then (w08_TreeAdds.j1 k x7 bt529.1 bt533.1 bt537.1 (!bt537.2)) else (w08_TreeAdds.j1 k x7 bt529.1 bt533.1 bt537.1 true)) else (w08_TreeAdds.j1 k x7 bt529.1 bt533.1 bt537.1 true)))))
def w08_TreeAdds.j1 : Nat → Bool → List (S55) → List (S55) → List (S55) → Bool → Option (Bool)
  | 0, _, _, _, _, _ => none
  | k + 1, x7, x12, x14, x16, x97 => if x97 = true then (some false) else (w08_TreeAdds.l1 k x7 x12 x14 x16 (x16.length : Int) 0)
def w08_TreeAdds.l1 : Nat → Bool → List (S55) → List (S55) → List (S55) → Int → Int → Option (Bool)
  | 0, _, _, _, _, _, _ => none
  | k + 1, x7, x12, x14, x16, x99, x100 => if x100 < x99 then (w08_TreeAdds.l2 k x7 x12 x14 x16 x100 x99 x100 0) else (some x7)
def w08_TreeAdds.l2 : Nat → Bool → List (S55) → List (S55) → List (S55) → Int → Int → Int → Int → Option (Bool)
  | 0, _, _, _, _, _, _, _, _ => none
  | k + 1, x7, x12, x14, x16, x18, x99, x100, x103 => if x103 < 3 then (if 0 ≤ x18 then (if x18 < (x16.length : Int) then (if x103 = 0 then (if x18 < (x12.length : Int) then (if x18 < (x14.length : Int) then (if ((rd_T55 x16 x18).f0) = (wrap64 (((rd_T55 x12 x18).f0) + ((rd_T55 x14 x18).f0))) then (w08_TreeAdds.l2 k x7 x12 x14 x16 x18 x99 x100 (wrap64 (x103 + 1))) else (some false)) else (none)) else (none)) else (if x103 = 1 then (if x18 < (x12.length : Int) then (if x18 < (x14.length : Int) then (if ((rd_T55 x16 x18).f1) = (wrap64 (((rd_T55 x12 x18).f1) + ((rd_T55 x14 x18).f1))) then (w08_TreeAdds.l2 k x7 x12 x14 x16 x18 x99 x100 (wrap64 (x103 + 1))) else (some false)) else (none)) else (none)) else (if x103 = 2 then (if x18 < (x12.length : Int) then (if x18 < (x14.length : Int) then (if ((rd_T55 x16 x18).f2) = (wrap64 (((rd_T55 x12 x18).f2) + ((rd_T55 x14 x18).f2))) then (w08_TreeAdds.l2 k x7 x12 x14 x16 x18 x99 x100 (wrap64 (x103 + 1))) else (some false)) else (none)) else (none)) else (none)))) else (none)) else (none)) else (w08_TreeAdds.l1 k x7 x12 x14 x16 x99 (wrap64 (x100 + 1)))
end
def w08_TreeAdds.f (k : Nat) (l0_0 : List (S48)) (l0_1 : List (S62)) (l0_2 : List (S84)) (l0_3 : List (S42)) (l0_4 : List (S87)) (l1 : List Int) (l2 : List Int) : Option (Bool) := (w08_head.f k).bind fun t509 => ((w08_usable.f k l0_0 l0_1 l0_2 l0_3 l0_4).bind fun t510 => (if t510 = true then ((w08_currents.f k l0_0 l0_1 l0_2 l0_3 l0_4 l1).bind fun t511 => (if 0 ≤ (t511.length : Int) then (if ((t511.length : Int) : Int).toNat ≤ 35184372088832 then (w08_TreeAdds.l0 k l2 t509 t511 (List.replicate ((t511.length : Int) : Int).toNat 0) (List.replicate ((t511.length : Int) : Int).toNat 0) (t511.length : Int) 0 l0_0 l0_1 l0_2 l0_3 l0_4) else (none)) else (none))) else (some t509)))
theorem w08_TreeAdds.mono_l : ∀ k, (∀ y0 y1 y2 y3 y4 y5 y6 y7 y8 y9 y10 y11, LeO (w08_TreeAdds.l0 k y0 y1 y2 y3 y4 y5 y6 y7 y8 y9 y10 y11) (w08_TreeAdds.l0 (k + 1) y0 y1 y2 y3 y4 y5 y6 y7 y8 y9 y10 y11)) ∧ (∀ y0 y1 y2 y3 y4, LeO (w08_TreeAdds.j1 k y0 y1 y2 y3 y4) (w08_TreeAdds.j1 (k + 1) y0 y1 y2 y3 y4)) ∧ (∀ y0 y1 y2 y3 y4 y5, LeO (w08_TreeAdds.l1 k y0 y1 y2 y3 y4 y5) (w08_TreeAdds.l1 (k + 1) y0 y1 y2 y3 y4 y5)) ∧ (∀ y0 y1 y2 y3 y4 y5 y6 y7, LeO (w08_TreeAdds.l2 k y0 y1 y2 y3 y4 y5 y6 y7) (w08_TreeAdds.l2 (k + 1) y0 y1 y2 y3 y4 y5 y6 y7))
  | 0 => ⟨fun _ _ _ _ _ _ _ _ _ _ _ _ r h => by simp [w08_TreeAdds.l0] at h, fun _ _ _ _ _ r h => by simp [w08_TreeAdds.j1] at h, fun _ _ _ _ _ _ r h => by simp [w08_TreeAdds.l1] at h, fun _ _ _ _ _ _ _ _ r h => by simp [w08_TreeAdds.l2] at h⟩
  | k + 1 => by
    obtain ⟨ih0, ih1, ih2, ih3⟩ := w08_TreeAdds.mono_l k
    refine ⟨?_, ?_, ?_, ?_⟩
    · intro y0 y1 y2 y3 y4 y5 y6 y7 y8 y9 y10 y11
      unfold w08_TreeAdds.l0
      repeat' first
      | (with_reducible exact ih0 _ _ _ _ _ _ _ _ _ _ _ _)
      | (with_reducible exact ih1 _ _ _ _ _)
      | (with_reducible exact ih2 _ _ _ _ _ _)
      | (with_reducible exact ih3 _ _ _ _ _ _ _ _)
      | (with_reducible exact w08_currents.mono _ _ _ _ _ _ _)
      | (with_reducible exact w08_head.mono _)
      | (with_reducible exact w08_usable.mono _ _ _ _ _ _)
      | (with_reducible exact LeO.refl _)
      | (with_reducible exact LeO.none _)
      | (with_reducible refine LeO.ite ?_ ?_)
      | (with_reducible refine LeO.bind ?_ (fun _ => ?_))
      | exact ih0 _ _ _ _ _ _ _ _ _ _ _ _
      | exact ih1 _ _ _ _ _
      | exact ih2 _ _ _ _ _ _
      | exact ih3 _ _ _ _ _ _ _ _
      | exact w08_currents.mono _ _ _ _ _ _ _
      | exact w08_head.mono _
      | exact w08_usable.mono _ _ _ _ _ _
      | exact LeO.none _
      | refine LeO.ite ?_ ?_
      | refine LeO.bind ?_ (fun _ => ?_)
    · intro y0 y1 y2 y3 y4
      unfold w08_TreeAdds.j1
      repeat' first
      | (with_reducible exact ih0 _ _ _ _ _ _ _ _ _ _ _ _)
      | (with_reducible exact ih1 _ _ _ _ _)
      | (with_reducible exact ih2 _ _ _ _ _ _)
      | (with_reducible exact ih3 _ _ _ _ _ _ _ _)
      | (with_reducible exact w08_currents.mono _ _ _ _ _ _ _)
      | (with_reducible exact w08_head.mono _)
      | (with_reducible exact w08_usable.mono _ _ _ _ _ _)
      | (with_reducible exact LeO.refl _)
      | (with_reducible exact LeO.none _)
      | (with_reducible refine LeO.ite ?_ ?_)
      | (with_reducible refine LeO.bind ?_ (fun _ => ?_))
      | exact ih0 _ _ _ _ _ _ _ _ _ _ _ _
      | exact ih1 _ _ _ _ _
      | exact ih2 _ _ _ _ _ _
      | exact ih3 _ _ _ _ _ _ _ _
      | exact w08_currents.mono _ _ _ _ _ _ _
      | exact w08_head.mono _
      | exact w08_usable.mono _ _ _ _ _ _
      | exact LeO.none _
      | refine LeO.ite ?_ ?_
      | refine LeO.bind ?_ (fun _ => ?_)
    · intro y0 y1 y2 y3 y4 y5
      unfold w08_TreeAdds.l1
      repeat' first
      | (with_reducible exact ih0 _ _ _ _ _ _ _ _ _ _ _ _)
      | (with_reducible exact ih1 _ _ _ _ _)
      | (with_reducible exact ih2 _ _ _ _ _ _)
      | (with_reducible exact ih3 _ _ _ _ _ _ _ _)
      | (with_reducible exact w08_currents.mono _ _ _ _ _ _ _)
      | (with_reducible exact w08_head.mono _)
      | (with_reducible exact w08_usable.mono _ _ _ _ _ _)
      | (with_reducible exact LeO.refl _)
      | (with_reducible exact LeO.none _)
      | (with_reducible refine LeO.ite ?_ ?_)
      | (with_reducible refine LeO.bind ?_ (fun _ => ?_))
      | exact ih0 _ _ _ _ _ _ _ _ _ _ _ _
      | exact ih1 _ _ _ _ _
      | exact ih2 _ _ _ _ _ _
      | exact ih3 _ _ _ _ _ _ _ _
      | exact w08_currents.mono _ _ _ _ _ _ _
      | exact w08_head.mono _
      | exact w08_usable.mono _ _ _ _ _ _
      | exact LeO.none _
      | refine LeO.ite ?_ ?_
      | refine LeO.bind ?_ (fun _ => ?_)
    · intro y0 y1 y2 y3 y4 y5 y6 y7
      unfold w08_TreeAdds.l2
      repeat' first
      | (with_reducible exact ih0 _ _ _ _ _ _ _ _ _ _ _ _)
      | (with_reducible exact ih1 _ _ _ _ _)
      | (with_reducible exact ih2 _ _ _ _ _ _)
      | (with_reducible exact ih3 _ _ _ _ _ _ _ _)
      | (with_reducible exact w08_currents.mono _ _ _ _ _ _ _)
      | (with_reducible exact w08_head.mono _)
      | (with_reducible exact w08_usable.mono _ _ _ _ _ _)
      | (with_reducible exact LeO.refl _)
      | (with_reducible exact LeO.none _)
      | (with_reducible refine LeO.ite ?_ ?_)
      | (with_reducible refine LeO.bind ?_ (fun _ => ?_))
      | exact ih0 _ _ _ _ _ _ _ _ _ _ _ _
      | exact ih1 _ _ _ _ _
      | exact ih2 _ _ _ _ _ _
      | exact ih3 _ _ _ _ _ _ _ _
      | exact w08_currents.mono _ _ _ _ _ _ _
      | exact w08_head.mono _
      | exact w08_usable.mono _ _ _ _ _ _
      | exact LeO.none _
      | refine LeO.ite ?_ ?_
      | refine LeO.bind ?_ (fun _ => ?_)
theorem w08_TreeAdds.mono : ∀ a0 a1 a2 a3 a4 a5 a6 k, LeO (w08_TreeAdds.f k a0 a1 a2 a3 a4 a5 a6) (w08_TreeAdds.f (k + 1) a0 a1 a2 a3 a4 a5 a6) := by
  intro a0 a1 a2 a3 a4 a5 a6 k
  obtain ⟨ih0, ih1, ih2, ih3⟩ := w08_TreeAdds.mono_l k
  unfold w08_TreeAdds.f
  repeat' first
      | (with_reducible exact ih0 _ _ _ _ _ _ _ _ _ _ _ _)
      | (with_reducible exact ih1 _ _ _ _ _)
      | (with_reducible exact ih2 _ _ _ _ _ _)
      | (with_reducible exact ih3 _ _ _ _ _ _ _ _)
      | (with_reducible exact w08_currents.mono _ _ _ _ _ _ _)
      | (with_reducible exact w08_head.mono _)
      | (with_reducible exact w08_usable.mono _ _ _ _ _ _)
      | (with_reducible exact LeO.refl _)
      | (with_reducible exact LeO.none _)
      | (with_reducible refine LeO.ite ?_ ?_)
      | (with_reducible refine LeO.bind ?_ (fun _ => ?_))
      | exact ih0 _ _ _ _ _ _ _ _ _ _ _ _
      | exact ih1 _ _ _ _ _
      | exact ih2 _ _ _ _ _ _
      | exact ih3 _ _ _ _ _ _ _ _
      | exact w08_currents.mono _ _ _ _ _ _ _
      | exact w08_head.mono _
      | exact w08_usable.mono _ _ _ _ _ _
      | exact LeO.none _
      | refine LeO.ite ?_ ?_
      | refine LeO.bind ?_ (fun _ => ?_)
def w08_TreeAdds.T11 : Bool × List (List Nat × List Nat) := (true, [([], []), ([], []), ([], []), ([], []), ([2, 3], [2, 3]), ([4], [4]), ([5], [5]), ([], []), ([], []), ([7, 8], [7, 8]), ([9], [9]), ([10], [10]), ([6, 11], [6, 11]), ([0, 1, 0, 1, 2, 3, 4, 5, 6, 7, 8, 9, 10, 11, 12], [0, 1]), ([13, 12, 0, 1, 2, 3, 4, 5, 6, 7, 8, 9, 10, 11, 12], [12, 13])])
def w08_TreeAdds.B11 : List Nat := [0, 0, 0, 0, 12, 28, 60, 0, 0, 384, 896, 1920, 4092, 8191, 16383]
theorem w08_TreeAdds.tab11 : rtab .any (opsOf Try.f7 11) = w08_TreeAdds.T11 := by kernel_rfl
theorem w08_TreeAdds.bits11 : waitsOk w08_TreeAdds.T11.2 w08_TreeAdds.B11 = true := by kernel_rfl
def w08_TreeAdds.T12 : Bool × List (List Nat × List Nat) := (true, [([], []), ([], []), ([], []), ([], []), ([2, 3], [2, 3]), ([4], [4]), ([], []), ([], []), ([6, 7], [6, 7]), ([8], [8]), ([5, 9], [5, 9]), ([0, 1, 0, 1, 2, 3, 4, 5, 6, 7, 8, 9, 10], [0, 1]), ([11, 10, 0, 1, 2, 3, 4, 5, 6, 7, 8, 9, 10], [10, 11])])
def w08_TreeAdds.B12 : List Nat := [0, 0, 0, 0, 12, 28, 0, 0, 192, 448, 1020, 2047, 4095]
theorem w08_TreeAdds.tab12 : rtab .any (opsOf Try.f7 12) = w08_TreeAdds.T12 := by kernel_rfl
theorem w08_TreeAdds.bits12 : waitsOk w08_TreeAdds.T12.2 w08_TreeAdds.B12 = true := by kernel_rfl
def w08_TreeAdds.T25 : Bool × List (List Nat × List Nat) := (true, [([], []), ([], []), ([], []), ([0, 1], [0, 1]), ([3, 2], [2, 3]), ([4], [4]), ([], []), ([], []), ([], []), ([6, 7], [6, 7]), ([9, 8], [8, 9]), ([10], [10]), ([], []), ([], []), ([], []), ([12, 13], [12, 13]), ([15, 14], [14, 15]), ([16], [16]), ([11, 17], [11, 17]), ([5, 18], [5, 18])])
def w08_TreeAdds.B25 : List Nat := [0, 0, 0, 3, 15, 31, 0, 0, 0, 192, 960, 1984, 0, 0, 0, 12288, 61440, 126976, 262080, 524287]
theorem w08_TreeAdds.tab25 : rtab .any (opsOf Try.f7 25) = w08_TreeAdds.T25 := by kernel_rfl
theorem w08_TreeAdds.bits25 : waitsOk w08_TreeAdds.T25.2 w08_TreeAdds.B25 = true := by kernel_rfl
set_option maxHeartbeats 8000000 in
set_option maxRecDepth 100000 in
theorem w08_TreeAdds.calls (k : Nat) (A0_0 : Option Addr) (c0_0 : Nat) (l0_0 : List (S48)) (A0_1 : Option Addr) (c0_1 : Nat) (l0_1 : List (S62)) (A0_2 : Option Addr) (c0_2 : Nat) (l0_2 : List (S84)) (A0_3 : Option Addr) (c0_3 : Nat) (l0_3 : List (S42)) (A0_4 : Option Addr) (c0_4 : Nat) (l0_4 : List (S87)) (A1 : Option Addr) (c1 : Nat) (l1 : List Int) (A2 : Option Addr) (c2 : Nat) (l2 : List Int) (r : Bool) (w : World) (hr0_0 : Kd.C k48 w A0_0 l0_0.length l0_0) (hc0_0 : l0_0.length ≤ c0_0) (hr0_1 : Kd.C k62 w A0_1 l0_1.length l0_1) (hc0_1 : l0_1.length ≤ c0_1) (hr0_2 : Kd.C k84 w A0_2 l0_2.length l0_2) (hc0_2 : l0_2.length ≤ c0_2) (hr0_3 : Kd.C k42 w A0_3 l0_3.length l0_3) (hc0_3 : l0_3.length ≤ c0_3) (hr0_4 : Kd.C k87 w A0_4 l0_4.length l0_4) (hc0_4 : l0_4.length ≤ c0_4) (hr1 : Kd.C (Kd.int .u8) w A1 l1.length l1) (hc1 : l1.length ≤ c1) (hr2 : Kd.C (Kd.int .u8) w A2 l2.length l2) (hc2 : l2.length ≤ c2) (h : w08_TreeAdds.f k l0_0 l0_1 l0_2 l0_3 l0_4 l1 l2 = some r) :
    Calls Try.prog 7 #[.agg #[.slice A0_0 l0_0.length c0_0, .slice A0_1 l0_1.length c0_1, .slice A0_2 l0_2.length c0_2, .slice A0_3 l0_3.length c0_3, .slice A0_4 l0_4.length c0_4], .slice A1 l1.length c1, .slice A2 l2.length c2] w fun e w' => e = .returned (.bool r) ∧ Below w.heap.size w w' := by
 have hu28 := Try.underlying28
 have HR0_0 := Aside0.mk hr0_0
 have HC0_0 := Aside0.mk hc0_0
 clear hr0_0 hc0_0
 have HR0_1 := Aside0.mk hr0_1
 have HC0_1 := Aside0.mk hc0_1
 clear hr0_1 hc0_1
 have HR0_2 := Aside0.mk hr0_2
 have HC0_2 := Aside0.mk hc0_2
 clear hr0_2 hc0_2
 have HR0_3 := Aside0.mk hr0_3
 have HC0_3 := Aside0.mk hc0_3
 clear hr0_3 hc0_3
 have HR0_4 := Aside0.mk hr0_4
 have HC0_4 := Aside0.mk hc0_4
 clear hr0_4 hc0_4
 have HR1 := Aside0.mk hr1
 have HC1 := Aside0.mk hc1
 clear hr1 hc1
 have HR2 := Aside0.mk hr2
 have HC2 := Aside0.mk hc2
 clear hr2 hc2
 have HB := Aside0.mk (Below.refl w.heap.size w)
 have H : ((w08_head.f k).bind fun t509 => ((w08_usable.f k l0_0 l0_1 l0_2 l0_3 l0_4).bind fun t510 => (if t510 = true then ((w08_currents.f k l0_0 l0_1 l0_2 l0_3 l0_4 l1).bind fun t511 => (if 0 ≤ (t511.length : Int) then (if ((t511.length : Int) : Int).toNat ≤ 35184372088832 then (w08_TreeAdds.l0 k l2 t509 t511 (List.replicate ((t511.length : Int) : Int).toNat 0) (List.replicate ((t511.length : Int) : Int).toNat 0) (t511.length : Int) 0 l0_0 l0_1 l0_2 l0_3 l0_4) else (none)) else (none))) else (some t509)))) = some r := h
 clear h
 replace H := Option.bind_eq_some_iff.mp H
 obtain ⟨t509, A40, H⟩ := H
 replace H : ((w08_usable.f k l0_0 l0_1 l0_2 l0_3 l0_4).bind fun t510 => (if t510 = true then ((w08_currents.f k l0_0 l0_1 l0_2 l0_3 l0_4 l1).bind fun t511 => (if 0 ≤ (t511.length : Int) then (if ((t511.length : Int) : Int).toNat ≤ 35184372088832 then (w08_TreeAdds.l0 k l2 t509 t511 (List.replicate ((t511.length : Int) : Int).toNat 0) (List.replicate ((t511.length : Int) : Int).toNat 0) (t511.length : Int) 0 l0_0 l0_1 l0_2 l0_3 l0_4) else (none)) else (none))) else (some t509))) = some r := H
 have A4 := Aside0.mk A40
 clear A40
 replace H := Option.bind_eq_some_iff.mp H
 obtain ⟨t510, A50, H⟩ := H
 replace H : (if t510 = true then ((w08_currents.f k l0_0 l0_1 l0_2 l0_3 l0_4 l1).bind fun t511 => (if 0 ≤ (t511.length : Int) then (if ((t511.length : Int) : Int).toNat ≤ 35184372088832 then (w08_TreeAdds.l0 k l2 t509 t511 (List.replicate ((t511.length : Int) : Int).toNat 0) (List.replicate ((t511.length : Int) : Int).toNat 0) (t511.length : Int) 0 l0_0 l0_1 l0_2 l0_3 l0_4) else (none)) else (none))) else (some t509)) = some r := H
 have A5 := Aside0.mk A50
 clear A50
 by_cases c6 : t510 = true
 rotate_left
 ·replace c6 := Bool.eq_false_iff.mpr c6
  subst c6
  have H1 : (some t509) = some r := by rw [if_neg (show ¬ (false = true) by decide)] at H; exact H
  clear H
  have H := H1
  clear H1
  obtain rfl := Option.some.inj H
  go_enter Try.func7, Try.ntmps7
  go_wp2_with (first | ((with_reducible refine gate_dst (N := 3) rfl ?_); refine box_event ?hg (N := 3) ?hd (cs := #[.slice A0_0 l0_0.length c0_0, .slice A0_1 l0_1.length c0_1, .slice A0_2 l0_2.length c0_2, .slice A0_3 l0_3.length c0_3, .slice A0_4 l0_4.length c0_4]) (t := 28) ?hr ?_; (case hd => rfl); (case hg => rfl); (case hr => first | (go_simp; done) | (go_simp; rfl)); intro gb508 hg w93 hbox hb; have n0_ := Aside0.mk (below_step (kB HB) hb); have n1_ := Aside0.mk (hbox); have n2_ := Aside0.mk ((by rw [hg]; exact (below_size (kB HB)) : w.heap.size ≤ gb508)); have n3_ := Aside0.mk ((by rw [hg]; exact (below_size (kB HB)) : w.heap.size ≤ gb508)); clear HB; have HB := n0_; have BK508 := n1_; have GW508 := n2_; have GE508 := n3_; clear n0_ n1_ n2_ n3_; clear hb hbox hg) | ((with_reducible refine gate_callee (f := 10) rfl ?_); refine goesL_ (some 20) rfl rfl Try.func10 (by kernel_rfl) rfl #[] rfl tL ?_; (with_reducible refine (w08_head.calls k  t509 _ A4.out).mono ?_); rintro e w94 ⟨rfl, hb⟩; refine ⟨_, rfl, ?_⟩; have n0_ := Aside0.mk (blk_below (g := gb508) (o := .cells #[.slice A0_0 l0_0.length c0_0, .slice A0_1 l0_1.length c0_1, .slice A0_2 l0_2.length c0_2, .slice A0_3 l0_3.length c0_3, .slice A0_4 l0_4.length c0_4] 28 (0, 0)) (kK BK508) hb); have n1_ := Aside0.mk (below_step (kB1 HB GE508) hb); clear BK508; clear HB; have BK508 := n0_; have HB := n1_; clear n0_ n1_; obtain ⟨⟨hcz95_0, hcz95_1, hcz95_2, hcz95_3, hcz95_4⟩, hfz95_0, hfz95_1, hfz95_2, hfz95_3, hfz95_4⟩ := bx5 BK508) | ((with_reducible refine gate_callee (f := 20) rfl ?_); refine goesL_ (some 22) rfl rfl Try.func20 (by kernel_rfl) rfl #[.agg #[.slice A0_0 l0_0.length c0_0, .slice A0_1 l0_1.length c0_1, .slice A0_2 l0_2.length c0_2, .slice A0_3 l0_3.length c0_3, .slice A0_4 l0_4.length c0_4]] rfl tL ?_; (with_reducible refine (w08_usable.calls k _ _ l0_0 _ _ l0_1 _ _ l0_2 _ _ l0_3 _ _ l0_4 false _ ?side1 ?side2 ?side3 ?side4 ?side5 ?side6 ?side7 ?side8 ?side9 ?side10 A5.out).mono ?_); (case side1 => repeat (first | exact (Kd.C_below HR0_0.out HB.out) | (with_reducible refine Kd.C_alloc ?_ _) | (with_reducible refine Kd.C_drewN ?_ _) | (with_reducible refine Kd.C_drew ?_))); (case side2 => exact HC0_0.out); (case side3 => repeat (first | exact (Kd.C_below HR0_1.out HB.out) | (with_reducible refine Kd.C_alloc ?_ _) | (with_reducible refine Kd.C_drewN ?_ _) | (with_reducible refine Kd.C_drew ?_))); (case side4 => exact HC0_1.out); (case side5 => repeat (first | exact (Kd.C_below HR0_2.out HB.out) | (with_reducible refine Kd.C_alloc ?_ _) | (with_reducible refine Kd.C_drewN ?_ _) | (with_reducible refine Kd.C_drew ?_))); (case side6 => exact HC0_2.out); (case side7 => repeat (first | exact (Kd.C_below HR0_3.out HB.out) | (with_reducible refine Kd.C_alloc ?_ _) | (with_reducible refine Kd.C_drewN ?_ _) | (with_reducible refine Kd.C_drew ?_))); (case side8 => exact HC0_3.out); (case side9 => repeat (first | exact (Kd.C_below HR0_4.out HB.out) | (with_reducible refine Kd.C_alloc ?_ _) | (with_reducible refine Kd.C_drewN ?_ _) | (with_reducible refine Kd.C_drew ?_))); (case side10 => exact HC0_4.out); rintro e w96 ⟨rfl, hb⟩; refine ⟨_, rfl, ?_⟩; have n0_ := Aside0.mk (blk_below (g := gb508) (o := .cells #[.slice A0_0 l0_0.length c0_0, .slice A0_1 l0_1.length c0_1, .slice A0_2 l0_2.length c0_2, .slice A0_3 l0_3.length c0_3, .slice A0_4 l0_4.length c0_4] 28 (0, 0)) (kK BK508) hb); have n1_ := Aside0.mk (below_step (kB1 HB GE508) hb); clear BK508; clear HB; have BK508 := n0_; have HB := n1_; clear n0_ n1_))
  go_ret
  exact ⟨by first | rfl | (simp [errW_none, errW_some] <;> rfl) | (simp [*, errW_none, errW_some] <;> rfl), kB1 HB GE508⟩
 subst c6
 have H1 : ((w08_currents.f k l0_0 l0_1 l0_2 l0_3 l0_4 l1).bind fun t511 => (if 0 ≤ (t511.length : Int) then (if ((t511.length : Int) : Int).toNat ≤ 35184372088832 then (w08_TreeAdds.l0 k l2 t509 t511 (List.replicate ((t511.length : Int) : Int).toNat 0) (List.replicate ((t511.length : Int) : Int).toNat 0) (t511.length : Int) 0 l0_0 l0_1 l0_2 l0_3 l0_4) else (none)) else (none))) = some r := by rw [if_pos rfl] at H; exact H
 clear H
 have H := H1
 clear H1
 replace H := Option.bind_eq_some_iff.mp H
 obtain ⟨t511, A70, H⟩ := H
 replace H : (if 0 ≤ (t511.length : Int) then (if ((t511.length : Int) : Int).toNat ≤ 35184372088832 then (w08_TreeAdds.l0 k l2 t509 t511 (List.replicate ((t511.length : Int) : Int).toNat 0) (List.replicate ((t511.length : Int) : Int).toNat 0) (t511.length : Int) 0 l0_0 l0_1 l0_2 l0_3 l0_4) else (none)) else (none)) = some r := H
 have A7 := Aside0.mk A70
 clear A70
 by_cases c8 : 0 ≤ (t511.length : Int)
 rotate_left
 ·rw [if_neg c8] at H
  exact absurd H (by simp)
 rw [if_pos c8] at H
 have c8b0 := eq_true c8
 have c8b1 : decide (0 ≤ (t511.length : Int)) = true := decide_eq_true c8
 clear c8
 by_cases c9 : ((t511.length : Int) : Int).toNat ≤ 35184372088832
 rotate_left
 ·rw [if_neg c9] at H
  exact absurd H (by simp)
 rw [if_pos c9] at H
 have c9b0 := eq_true c9
 have c9b1 : decide (((t511.length : Int) : Int).toNat ≤ 35184372088832) = true := decide_eq_true c9
 clear c9
 obtain ⟨y514, hy514⟩ : ∃ y_ : List Int, y_ = (List.replicate ((t511.length : Int) : Int).toNat 0) := ⟨_, rfl⟩
 replace H : (w08_TreeAdds.l0 k l2 t509 t511 y514 (List.replicate ((t511.length : Int) : Int).toNat 0) (t511.length : Int) 0 l0_0 l0_1 l0_2 l0_3 l0_4) = some r := by first | (rw [hy514]; with_reducible exact H) | (have H2_ := (Option.bind_some _ _).symm.trans H; rw [hy514]; with_reducible exact H2_) | (have H2_ := (Option.bind_some _ _).symm.trans H; with_reducible exact H2_) | with_reducible exact H | (rw [hy514]; exact H) | exact H
 have Ny514 := Aside0.mk hy514
 clear hy514
 obtain ⟨y517, hy517⟩ : ∃ y_ : List Int, y_ = (List.replicate ((t511.length : Int) : Int).toNat 0) := ⟨_, rfl⟩
 replace H : (w08_TreeAdds.l0 k l2 t509 t511 y514 y517 (t511.length : Int) 0 l0_0 l0_1 l0_2 l0_3 l0_4) = some r := by first | (rw [hy517]; with_reducible exact H) | (have H2_ := (Option.bind_some _ _).symm.trans H; rw [hy517]; with_reducible exact H2_) | (have H2_ := (Option.bind_some _ _).symm.trans H; with_reducible exact H2_) | with_reducible exact H | (rw [hy517]; exact H) | exact H
 have Ny517 := Aside0.mk hy517
 clear hy517
 have H' := Aside0.mk H
 clear H
 go_enter Try.func7, Try.ntmps7
 go_wp2_with (first | ((with_reducible refine gate_dst (N := 3) rfl ?_); refine box_event ?hg (N := 3) ?hd (cs := #[.slice A0_0 l0_0.length c0_0, .slice A0_1 l0_1.length c0_1, .slice A0_2 l0_2.length c0_2, .slice A0_3 l0_3.length c0_3, .slice A0_4 l0_4.length c0_4]) (t := 28) ?hr ?_; (case hd => rfl); (case hg => rfl); (case hr => first | (go_simp; done) | (go_simp; rfl)); intro gb508 hg w10 hbox hb; have n0_ := Aside0.mk (below_step (kB HB) hb); have n1_ := Aside0.mk (hbox); have n2_ := Aside0.mk ((by rw [hg]; exact (below_size (kB HB)) : w.heap.size ≤ gb508)); have n3_ := Aside0.mk ((by rw [hg]; exact (below_size (kB HB)) : w.heap.size ≤ gb508)); clear HB; have HB := n0_; have BK508 := n1_; have GW508 := n2_; have GE508 := n3_; clear n0_ n1_ n2_ n3_; clear hb hbox hg) | ((with_reducible refine gate_callee (f := 10) rfl ?_); refine goesL_ (some 20) rfl rfl Try.func10 (by kernel_rfl) rfl #[] rfl tL ?_; (with_reducible refine (w08_head.calls k  t509 _ A4.out).mono ?_); rintro e w11 ⟨rfl, hb⟩; refine ⟨_, rfl, ?_⟩; have n0_ := Aside0.mk (blk_below (g := gb508) (o := .cells #[.slice A0_0 l0_0.length c0_0, .slice A0_1 l0_1.length c0_1, .slice A0_2 l0_2.length c0_2, .slice A0_3 l0_3.length c0_3, .slice A0_4 l0_4.length c0_4] 28 (0, 0)) (kK BK508) hb); have n1_ := Aside0.mk (below_step (kB1 HB GE508) hb); clear BK508; clear HB; have BK508 := n0_; have HB := n1_; clear n0_ n1_; obtain ⟨⟨hcz12_0, hcz12_1, hcz12_2, hcz12_3, hcz12_4⟩, hfz12_0, hfz12_1, hfz12_2, hfz12_3, hfz12_4⟩ := bx5 BK508) | ((with_reducible refine gate_callee (f := 20) rfl ?_); refine goesL_ (some 22) rfl rfl Try.func20 (by kernel_rfl) rfl #[.agg #[.slice A0_0 l0_0.length c0_0, .slice A0_1 l0_1.length c0_1, .slice A0_2 l0_2.length c0_2, .slice A0_3 l0_3.length c0_3, .slice A0_4 l0_4.length c0_4]] rfl tL ?_; (with_reducible refine (w08_usable.calls k _ _ l0_0 _ _ l0_1 _ _ l0_2 _ _ l0_3 _ _ l0_4 true _ ?side1 ?side2 ?side3 ?side4 ?side5 ?side6 ?side7 ?side8 ?side9 ?side10 A5.out).mono ?_); (case side1 => repeat (first | exact (Kd.C_below HR0_0.out HB.out) | (with_reducible refine Kd.C_alloc ?_ _) | (with_reducible refine Kd.C_drewN ?_ _) | (with_reducible refine Kd.C_drew ?_))); (case side2 => exact HC0_0.out); (case side3 => repeat (first | exact (Kd.C_below HR0_1.out HB.out) | (with_reducible refine Kd.C_alloc ?_ _) | (with_reducible refine Kd.C_drewN ?_ _) | (with_reducible refine Kd.C_drew ?_))); (case side4 => exact HC0_1.out); (case side5 => repeat (first | exact (Kd.C_below HR0_2.out HB.out) | (with_reducible refine Kd.C_alloc ?_ _) | (with_reducible refine Kd.C_drewN ?_ _) | (with_reducible refine Kd.C_drew ?_))); (case side6 => exact HC0_2.out); (case side7 => repeat (first | exact (Kd.C_below HR0_3.out HB.out) | (with_reducible refine Kd.C_alloc ?_ _) | (with_reducible refine Kd.C_drewN ?_ _) | (with_reducible refine Kd.C_drew ?_))); (case side8 => exact HC0_3.out); (case side9 => repeat (first | exact (Kd.C_below HR0_4.out HB.out) | (with_reducible refine Kd.C_alloc ?_ _) | (with_reducible refine Kd.C_drewN ?_ _) | (with_reducible refine Kd.C_drew ?_))); (case side10 => exact HC0_4.out); rintro e w13 ⟨rfl, hb⟩; refine ⟨_, rfl, ?_⟩; have n0_ := Aside0.mk (blk_below (g := gb508) (o := .cells #[.slice A0_0 l0_0.length c0_0, .slice A0_1 l0_1.length c0_1, .slice A0_2 l0_2.length c0_2, .slice A0_3 l0_3.length c0_3, .slice A0_4 l0_4.length c0_4] 28 (0, 0)) (kK BK508) hb); have n1_ := Aside0.mk (below_step (kB1 HB GE508) hb); clear BK508; clear HB; have BK508 := n0_; have HB := n1_; clear n0_ n1_; obtain ⟨⟨hcz14_0, hcz14_1, hcz14_2, hcz14_3, hcz14_4⟩, hfz14_0, hfz14_1, hfz14_2, hfz14_3, hfz14_4⟩ := bx5 BK508) | ((with_reducible refine gate_callee (f := 22) rfl ?_); refine goesL_ (some 27) rfl rfl Try.func22 (by kernel_rfl) rfl #[.agg #[.slice A0_0 l0_0.length c0_0, .slice A0_1 l0_1.length c0_1, .slice A0_2 l0_2.length c0_2, .slice A0_3 l0_3.length c0_3, .slice A0_4 l0_4.length c0_4], .slice A1 l1.length c1] rfl tL ?_; (with_reducible refine (w08_currents.calls k _ _ l0_0 _ _ l0_1 _ _ l0_2 _ _ l0_3 _ _ l0_4 _ _ l1 t511 _ ?side1 ?side2 ?side3 ?side4 ?side5 ?side6 ?side7 ?side8 ?side9 ?side10 ?side11 ?side12 A7.out).mono ?_); (case side1 => repeat (first | exact (Kd.C_below HR0_0.out HB.out) | (with_reducible refine Kd.C_alloc ?_ _) | (with_reducible refine Kd.C_drewN ?_ _) | (with_reducible refine Kd.C_drew ?_))); (case side2 => exact HC0_0.out); (case side3 => repeat (first | exact (Kd.C_below HR0_1.out HB.out) | (with_reducible refine Kd.C_alloc ?_ _) | (with_reducible refine Kd.C_drewN ?_ _) | (with_reducible refine Kd.C_drew ?_))); (case side4 => exact HC0_1.out); (case side5 => repeat (first | exact (Kd.C_below HR0_2.out HB.out) | (with_reducible refine Kd.C_alloc ?_ _) | (with_reducible refine Kd.C_drewN ?_ _) | (with_reducible refine Kd.C_drew ?_))); (case side6 => exact HC0_2.out); (case side7 => repeat (first | exact (Kd.C_below HR0_3.out HB.out) | (with_reducible refine Kd.C_alloc ?_ _) | (with_reducible refine Kd.C_drewN ?_ _) | (with_reducible refine Kd.C_drew ?_))); (case side8 => exact HC0_3.out); (case side9 => repeat (first | exact (Kd.C_below HR0_4.out HB.out) | (with_reducible refine Kd.C_alloc ?_ _) | (with_reducible refine Kd.C_drewN ?_ _) | (with_reducible refine Kd.C_drew ?_))); (case side10 => exact HC0_4.out); (case side11 => repeat (first | exact (Kd.C_below HR1.out HB.out) | (with_reducible refine Kd.C_alloc ?_ _) | (with_reducible refine Kd.C_drewN ?_ _) | (with_reducible refine Kd.C_drew ?_))); (case side12 => exact HC1.out); rintro e w15 ⟨v512, rfl, ho0, hb⟩; refine ⟨_, rfl, ?_⟩; have n0_ := Aside0.mk (Kd.R_lower ho0 (below_size (kB1 HB GE508))); have n1_ := Aside0.mk (blk_below (g := gb508) (o := .cells #[.slice A0_0 l0_0.length c0_0, .slice A0_1 l0_1.length c0_1, .slice A0_2 l0_2.length c0_2, .slice A0_3 l0_3.length c0_3, .slice A0_4 l0_4.length c0_4] 28 (0, 0)) (kK BK508) hb); have n2_ := Aside0.mk (below_step (kB1 HB GE508) hb); clear BK508; clear HB; have HO513 := n0_; have BK508 := n1_; have HB := n2_; clear n0_ n1_ n2_; obtain ⟨Ao16, co16, eo16⟩ := Kd.R_slice HO513.out; subst eo16) | ((with_reducible refine gate_dst (N := 30) rfl ?_); refine Kd.R_make (Kd.int .i64) _ 3 rfl (N := 30) rfl 29 _ _ rfl (t511.length : Int) rfl rfl Try.underlying29 (.int .i64 0) 8 info3 rfl (by decide) (by omega) 0 (ok := fun _ => True) (okp := fun _ => True) rfl (fun _ hk => hk) trivial (tD) (Nat.le_trans (Nat.mul_le_mul_right _ (tD : (t511.length : Int).toNat ≤ 35184372088832)) (by omega)) (Below.refl _ _) (Nat.le_refl _) ?_; intro v515 w17 ho18 hb hg_ hnew_; clear hg_ hnew_; (first | rw [← Ny514.out] at ho18 | (simp only [Int.reduceToNat] at ho18; rw [← Ny514.out] at ho18)); have n0_ := Aside0.mk (Kd.R_elder' (kR HO513) (Kd.R_base ho18) hb); have n1_ := Aside0.mk (Kd.R_lower (Kd.R_new' ho18 (Kd.R_lt (kR HO513))) (below_size (kB1 HB GE508))); have n2_ := Aside0.mk (blk_below (g := gb508) (o := .cells #[.slice A0_0 l0_0.length c0_0, .slice A0_1 l0_1.length c0_1, .slice A0_2 l0_2.length c0_2, .slice A0_3 l0_3.length c0_3, .slice A0_4 l0_4.length c0_4] 28 (0, 0)) (kK BK508) hb); have n3_ := Aside0.mk (below_step (kB1 HB GE508) hb); clear HO513; clear BK508; clear HB; have HO513 := n0_; have HO516 := n1_; have BK508 := n2_; have HB := n3_; clear n0_ n1_ n2_ n3_; clear hb ho18) | ((with_reducible refine gate_dst (N := 33) rfl ?_); refine Kd.R_make (Kd.int .i64) _ 3 rfl (N := 33) rfl 29 _ _ rfl (t511.length : Int) rfl rfl Try.underlying29 (.int .i64 0) 8 info3 rfl (by decide) (by omega) 0 (ok := fun _ => True) (okp := fun _ => True) rfl (fun _ hk => hk) trivial (tD) (Nat.le_trans (Nat.mul_le_mul_right _ (tD : (t511.length : Int).toNat ≤ 35184372088832)) (by omega)) (Below.refl _ _) (Nat.le_refl _) ?_; intro v518 w19 ho20 hb hg_ hnew_; clear hg_ hnew_; (first | rw [← Ny517.out] at ho20 | (simp only [Int.reduceToNat] at ho20; rw [← Ny517.out] at ho20)); have n0_ := Aside0.mk (Kd.R_elder' (kR HO513) (Kd.R_base ho20) hb); have n1_ := Aside0.mk (Kd.R_elder' (kR HO516) (Kd.R_base ho20) hb); have n2_ := Aside0.mk (Kd.R_lower (Kd.R_new' (Kd.R_new' ho20 (Kd.R_lt (kR HO513))) (Kd.R_lt (kR HO516))) (below_size (kB1 HB GE508))); have n3_ := Aside0.mk (blk_below (g := gb508) (o := .cells #[.slice A0_0 l0_0.length c0_0, .slice A0_1 l0_1.length c0_1, .slice A0_2 l0_2.length c0_2, .slice A0_3 l0_3.length c0_3, .slice A0_4 l0_4.length c0_4] 28 (0, 0)) (kK BK508) hb); have n4_ := Aside0.mk (below_step (kB1 HB GE508) hb); clear HO513; clear HO516; clear BK508; clear HB; have HO513 := n0_; have HO516 := n1_; have HO519 := n2_; have BK508 := n3_; have HB := n4_; clear n0_ n1_ n2_ n3_ n4_; clear hb ho20))
 go_loopg [36] k (fun kq v36 w' => ∃ (x9_1 : List Int) (x10_1 : List Int) (x36_1 : Int), v36 = .int .i64 x36_1 ∧ Aside0 (w08_TreeAdds.l0 kq l2 t509 t511 x9_1 x10_1 (t511.length : Int) x36_1 l0_0 l0_1 l0_2 l0_3 l0_4 = some r) ∧ Aside0 (kq ≤ k) ∧ Aside0 (Kd.R (Kd.int .i64) 3 w' w.heap.size (fun k_ => some k_ ≠ (v515 : Value).ownBlock ∧ some k_ ≠ (v518 : Value).ownBlock) (.slice Ao16 t511.length co16) t511) ∧ Aside0 (Kd.R (Kd.int .i64) 3 w' w.heap.size (fun k_ => some k_ ≠ ((.slice Ao16 t511.length co16) : Value).ownBlock ∧ some k_ ≠ (v518 : Value).ownBlock) v515 x9_1) ∧ Aside0 (Kd.R (Kd.int .i64) 3 w' w.heap.size (fun k_ => some k_ ≠ ((.slice Ao16 t511.length co16) : Value).ownBlock ∧ some k_ ≠ (v515 : Value).ownBlock) v518 x10_1) ∧ Aside0 (w'.heap[gb508]? = some (.cells #[(.slice A0_0 l0_0.length c0_0), (.slice A0_1 l0_1.length c0_1), (.slice A0_2 l0_2.length c0_2), (.slice A0_3 l0_3.length c0_3), (.slice A0_4 l0_4.length c0_4)] 28 (0, 0))) ∧ Aside0 (Below w.heap.size w w'))
 case atStart => exact ⟨(y514), (y517), (0), tQ, H', ⟨Nat.le_refl _⟩, ⟨by (with_reducible repeat (first | apply Kd.R_alloc | apply Kd.R_drewN | apply Kd.R_drew)); exact Kd.R_mono HO513.out (fun _ hk => ⟨hk.1.2, hk.2⟩)⟩, ⟨by (with_reducible repeat (first | apply Kd.R_alloc | apply Kd.R_drewN | apply Kd.R_drew)); exact Kd.R_mono HO516.out (fun _ hk => ⟨hk.1.2, hk.2⟩)⟩, ⟨by (with_reducible repeat (first | apply Kd.R_alloc | apply Kd.R_drewN | apply Kd.R_drew)); exact Kd.R_mono HO519.out (fun _ hk => ⟨hk.1.2, hk.2⟩)⟩, ⟨kK BK508⟩, ⟨kB1 HB GE508⟩⟩
 case round =>
  clear H'
  obtain ⟨x9_1, x10_1, x36_1, rfl, HA, HK1, HO_8, HO_9, HO_10, BK508, HB⟩ := hrel
  cases gk with
  | zero => exact absurd HA.out (by simp [w08_TreeAdds.l0])
  | succ k1 =>
   have H := HA.out
   clear HA
   simp only [w08_TreeAdds.l0] at H
   by_cases c21 : x36_1 < (t511.length : Int)
   ·rw [if_pos c21] at H
    have c21b0 : decide (x36_1 < (t511.length : Int)) = true := decide_eq_true c21
    clear c21
    by_cases c22 : x36_1 < (l2.length : Int)
    rotate_left
    ·rw [if_neg c22] at H
     have c22b0 : decide (x36_1 < (l2.length : Int)) = false := decide_eq_false c22
     clear c22
     by_cases c35 : 0 ≤ x36_1
     rotate_left
     ·rw [if_neg c35] at H
      exact absurd H (by simp)
     rw [if_pos c35] at H
     have c35b0 : decide (0 ≤ x36_1) = true := decide_eq_true c35
     clear c35
     by_cases c36 : x36_1 < (t511.length : Int)
     rotate_left
     ·rw [if_neg c36] at H
      exact absurd H (by simp)
     rw [if_pos c36] at H
     have c36b0 : decide (x36_1 < (t511.length : Int)) = true := decide_eq_true c36
     clear c36
     by_cases c37 : x36_1 < (x9_1.length : Int)
     rotate_left
     ·rw [if_neg c37] at H
      exact absurd H (by simp)
     rw [if_pos c37] at H
     have c37b0 : decide (x36_1 < (x9_1.length : Int)) = true := decide_eq_true c37
     clear c37
     by_cases c38 : x36_1 < (x10_1.length : Int)
     rotate_left
     ·rw [if_neg c38] at H
      exact absurd H (by simp)
     rw [if_pos c38] at H
     have c38b0 : decide (x36_1 < (x10_1.length : Int)) = true := decide_eq_true c38
     clear c38
     obtain ⟨y528, hy528⟩ : ∃ y_ : List Int, y_ = (x10_1.set (x36_1 : Int).toNat (wrap64 ((rd t511 x36_1) + (rd x9_1 x36_1)))) := ⟨_, rfl⟩
     replace H : (w08_TreeAdds.l0 k1 l2 t509 t511 x9_1 y528 (t511.length : Int) (wrap64 (x36_1 + 1)) l0_0 l0_1 l0_2 l0_3 l0_4) = some r := by first | (rw [hy528]; with_reducible exact H) | (have H2_ := (Option.bind_some _ _).symm.trans H; rw [hy528]; with_reducible exact H2_) | (have H2_ := (Option.bind_some _ _).symm.trans H; with_reducible exact H2_) | with_reducible exact H | (rw [hy528]; exact H) | exact H
     have Ny528 := Aside0.mk hy528
     clear hy528
     have H' := Aside0.mk H
     clear H
     try go_wp2
     have n0_ := Aside0.mk (Kd.R_drew HO_8.out)
     have n1_ := Aside0.mk (Kd.R_drew HO_9.out)
     have n2_ := Aside0.mk (Kd.R_drew HO_10.out)
     have n3_ := Aside0.mk (blk_drew BK508.out)
     have n4_ := Aside0.mk (below_drew1 HB.out)
     clear HO_8
     clear HO_9
     clear HO_10
     clear BK508
     clear HB
     have HO_8 := n0_
     have HO_9 := n1_
     have HO_10 := n2_
     have BK508 := n3_
     have HB := n4_
     clear n0_ n1_ n2_ n3_ n4_
     have p526 : 0 ≤ (x36_1 : Int) := tD
     have q526 : x36_1 < (t511.length : Int) := tD
     obtain ⟨ad526, e526, hx526_0⟩ := Kd.at_int (Kd.R_reads' HO_8.out).2.2 x36_1 p526 q526
     cases e526
     replace p526 := eq_true p526
     replace q526 := eq_true q526
     obtain ⟨Ao41, co41, eo41⟩ := Kd.R_slice HO_9.out
     (first | subst eo41 | (injection eo41 with f1_ f2_ f3_; have f4_ := f1_.symm; have f5_ := f3_.symm; clear f1_ f2_ f3_; subst f4_; subst f5_))
     have p527 : 0 ≤ (x36_1 : Int) := tD
     have q527 : x36_1 < (x9_1.length : Int) := tD
     obtain ⟨ad527, e527, hx527_0⟩ := Kd.at_int (Kd.R_reads' HO_9.out).2.2 x36_1 p527 q527
     cases e527
     replace p527 := eq_true p527
     replace q527 := eq_true q527
     have p39 : 0 ≤ (x36_1 : Int) := tD
     have q39 : (x36_1 : Int) < ((x10_1.length : Int) : Int) := tD
     obtain ⟨go39, co39, eo39, gb39, gl39, cl39, HG39⟩ := Kd.R_form HO_10.out (by omega)
     (first | cases eo39 | (injection eo39 with ea_ en_ ec_; (first | subst ea_ | (injection ea_ with ea_; subst ea_)); subst ec_; clear en_))
     have GB39 := Aside0.mk gb39
     have GG39 := Aside0.mk HG39
     clear gb39 gl39 HG39
     obtain ⟨hx39_0, hf39_0⟩ := Kd.R_celln 0 HO_10.out (x36_1 : Int) p39 q39
     replace p39 := eq_true p39
     replace q39 := eq_true q39
     have HP42 := Kd.R_putn HO_10.out (x36_1 : Int) (wrap64 ((rd t511 x36_1) + (rd x9_1 x36_1)))
     rw [← Ny528.out] at HP42
     have HQ42 := Aside0.mk HP42
     clear HP42
     refine start_ (n := 13) (S := fun w' => w'.cell? (ad526.add (x36_1).toNat) = some (.int .i64 (rd t511 x36_1)) ∧ w'.cell? (ad527.add (x36_1).toNat) = some (.int .i64 (rd x9_1 x36_1))) (ds := [12]) #[false, false, false, false, false, false, false, false, false, false, false, false, false] (by kernel_rfl) rfl rfl ⟨hx526_0, hx527_0⟩ (fun hHeld => ?_); refine with_tabW w08_TreeAdds.tab12 w08_TreeAdds.bits12 (fun HT_ HW_ => ?_)
     generalize wr.drew = w40 at HO_8 HO_9 HO_10 BK508 HB GG39 HQ42 hf39_0 hx39_0 hx526_0 hx527_0 hHeld ⊢
     refine pure_ (i := 0) (N := some 57) (v := ?_) (a' := ?_) #[true, false, false, false, false, false, false, false, false, false, false, false, false] rfl rfl (any_of HT_.out (by kernel_rfl)) (fun _ _ _ h => h) (Or.inl ⟨by rfl, ?_⟩) ?_ ?_
     rotate_left
     ·intro w'
      go_simp
      with_reducible rfl
     rotate_left
     ·simp only [Act.put, List.setIfInBounds_toArray, List.set_cons_zero, List.set_cons_succ, i64_w, i32_w]
      rfl
     refine pure_ (i := 1) (N := some 58) (v := ?_) (a' := ?_) #[true, true, false, false, false, false, false, false, false, false, false, false, false] rfl rfl (any_of HT_.out (by kernel_rfl)) (fun _ _ _ h => h) (Or.inl ⟨by rfl, ?_⟩) ?_ ?_
     rotate_left
     ·intro w'
      go_simp
      with_reducible rfl
     rotate_left
     ·simp only [Act.put, List.setIfInBounds_toArray, List.set_cons_zero, List.set_cons_succ, i64_w, i32_w]
      rfl
     refine pure_ (i := 2) (N := some 59) (v := ?_) (a' := ?_) #[true, true, true, false, false, false, false, false, false, false, false, false, false] rfl rfl (any_of HT_.out (by kernel_rfl)) (fun _ _ _ h => h) (Or.inl ⟨by rfl, ?_⟩) ?_ ?_
     rotate_left
     ·intro w'
      go_simp
      with_reducible rfl
     rotate_left
     ·simp only [Act.put, List.setIfInBounds_toArray, List.set_cons_zero, List.set_cons_succ, i64_w, i32_w]
      rfl
     refine pure_ (i := 3) (N := some 60) (v := ?_) (a' := ?_) #[true, true, true, true, false, false, false, false, false, false, false, false, false] rfl rfl (any_of HT_.out (by kernel_rfl)) (fun _ _ _ h => h) (Or.inl ⟨by rfl, ?_⟩) ?_ ?_
     rotate_left
     ·intro w'
      go_simp
      with_reducible rfl
     rotate_left
     ·simp only [Act.put, List.setIfInBounds_toArray, List.set_cons_zero, List.set_cons_succ, i64_w, i32_w]
      rfl
     refine pure_ (i := 4) (N := some 61) (v := ?_) (a' := ?_) #[true, true, true, true, true, false, false, false, false, false, false, false, false] rfl rfl (any_of HT_.out (by kernel_rfl)) (fun _ _ _ h => h) (Or.inl ⟨by rfl, ?_⟩) ?_ ?_
     rotate_left
     ·intro w'
      go_simp
      with_reducible rfl
     rotate_left
     ·simp only [Act.put, List.setIfInBounds_toArray, List.set_cons_zero, List.set_cons_succ, i64_w, i32_w]
      rfl
     refine pure_ (i := 6) (N := some 63) (v := ?_) (a' := ?_) #[true, true, true, true, true, false, true, false, false, false, false, false, false] rfl rfl (any_of HT_.out (by kernel_rfl)) (fun _ _ _ h => h) (Or.inl ⟨by rfl, ?_⟩) ?_ ?_
     rotate_left
     ·intro w'
      go_simp
      with_reducible rfl
     rotate_left
     ·simp only [Act.put, List.setIfInBounds_toArray, List.set_cons_zero, List.set_cons_succ, i64_w, i32_w]
      rfl
     refine pure_ (i := 7) (N := some 64) (v := ?_) (a' := ?_) #[true, true, true, true, true, false, true, true, false, false, false, false, false] rfl rfl (any_of HT_.out (by kernel_rfl)) (fun _ _ _ h => h) (Or.inl ⟨by rfl, ?_⟩) ?_ ?_
     rotate_left
     ·intro w'
      go_simp
      with_reducible rfl
     rotate_left
     ·simp only [Act.put, List.setIfInBounds_toArray, List.set_cons_zero, List.set_cons_succ, i64_w, i32_w]
      rfl
     refine pure_ (i := 8) (N := some 65) (v := ?_) (a' := ?_) #[true, true, true, true, true, false, true, true, true, false, false, false, false] rfl rfl (any_of HT_.out (by kernel_rfl)) (fun _ _ _ h => h) (Or.inl ⟨by rfl, ?_⟩) ?_ ?_
     rotate_left
     ·intro w'
      go_simp
      with_reducible rfl
     rotate_left
     ·simp only [Act.put, List.setIfInBounds_toArray, List.set_cons_zero, List.set_cons_succ, i64_w, i32_w]
      rfl
     refine take_ (i := 5) (N := some 62) (v := ?_) (a' := ?_) #[true, true, true, true, true, true, true, true, true, false, false, false, false] rfl rfl (take_ofW HT_.out HW_.out (by kernel_rfl)) (fun _ _ _ h => h) (Or.inl ⟨by rfl, ?_⟩) hHeld ?_ ?_
     rotate_left
     ·rintro w' ⟨s0, s1⟩
      go_simp
      with_reducible rfl
     rotate_left
     ·simp only [Act.put, List.setIfInBounds_toArray, List.set_cons_zero, List.set_cons_succ, i64_w, i32_w]
      rfl
     refine take_ (i := 9) (N := some 66) (v := ?_) (a' := ?_) #[true, true, true, true, true, true, true, true, true, true, false, false, false] rfl rfl (take_ofW HT_.out HW_.out (by kernel_rfl)) (fun _ _ _ h => h) (Or.inl ⟨by rfl, ?_⟩) hHeld ?_ ?_
     rotate_left
     ·rintro w' ⟨s0, s1⟩
      go_simp
      with_reducible rfl
     rotate_left
     ·simp only [Act.put, List.setIfInBounds_toArray, List.set_cons_zero, List.set_cons_succ, i64_w, i32_w]
      rfl
     refine pure_ (i := 10) (N := some 67) (v := ?_) (a' := ?_) #[true, true, true, true, true, true, true, true, true, true, true, false, false] rfl rfl (any_of HT_.out (by kernel_rfl)) (fun _ _ _ h => h) (Or.inl ⟨by rfl, ?_⟩) ?_ ?_
     rotate_left
     ·intro w'
      go_simp
      with_reducible rfl
     rotate_left
     ·simp only [Act.put, List.setIfInBounds_toArray, List.set_cons_zero, List.set_cons_succ, i64_w, i32_w]
      rfl
     refine pure_ (i := 11) (N := some 68) (v := ?_) (a' := ?_) #[true, true, true, true, true, true, true, true, true, true, true, true, false] rfl rfl (any_of HT_.out (by kernel_rfl)) (fun _ _ _ h => h) (Or.inl ⟨by rfl, ?_⟩) ?_ ?_
     rotate_left
     ·intro w'
      go_simp
      with_reducible rfl
     rotate_left
     ·simp only [Act.put, List.setIfInBounds_toArray, List.set_cons_zero, List.set_cons_succ, i64_w, i32_w]
      rfl
     refine last_ (i := 12) (N := none) #[true, true, true, true, true, true, true, true, true, true, true, true, true] rfl rfl (one_of HT_.out (by kernel_rfl)) (by decide) (fun K hK => ?_)
     refine skip_ (w1 := ?_) (by rfl) rfl ?_ ?_
     rotate_left
     ·go_simp
      rfl
     refine hK.out _ _ ?_
     clear hK K
     refine done_ (done_of HT_.out (by kernel_rfl)) ?_
     try go_wp2
     go_roundg k1
     case measure => have := HK1.out; omega
     case rel => exact ⟨(x9_1), (y528), (wrap64 (x36_1 + 1)), tQ, H', ⟨by have := HK1.out; omega⟩, ⟨by (with_reducible repeat (first | apply Kd.R_alloc | apply Kd.R_drewN | apply Kd.R_drew)); exact Kd.R_mono (Kd.R_far (p := ⟨go39, (x36_1 : Int).toNat, none⟩) (Kd.R_mono HO_8.out (fun k_ hk => (⟨hk, fun e_ => hk.2 (by rw [e_]; rfl)⟩ : _ ∧ k_ ≠ go39))) (fun _ hk => hk.2) (.int .i64 (wrap64 ((rd t511 x36_1) + (rd x9_1 x36_1))))) (fun _ hk => ⟨hk.1.1, hk.1.2⟩)⟩, ⟨by (with_reducible repeat (first | apply Kd.R_alloc | apply Kd.R_drewN | apply Kd.R_drew)); exact Kd.R_mono (Kd.R_far (p := ⟨go39, (x36_1 : Int).toNat, none⟩) (Kd.R_mono HO_9.out (fun k_ hk => (⟨hk, fun e_ => hk.2 (by rw [e_]; rfl)⟩ : _ ∧ k_ ≠ go39))) (fun _ hk => hk.2) (.int .i64 (wrap64 ((rd t511 x36_1) + (rd x9_1 x36_1))))) (fun _ hk => ⟨hk.1.1, hk.1.2⟩)⟩, ⟨kR HQ42⟩, ⟨by (with_reducible repeat (first | refine blk_drewN ?_ _ | refine blk_drew ?_ | refine blk_alloc ?_ _)); refine blk_far ?_ (by have h_ := Kd.R_ne HO_10.out BK508.out (by decide); intro e_; exact h_ (by rw [e_]; rfl)) _; (with_reducible repeat (first | refine blk_drewN ?_ _ | refine blk_drew ?_ | refine blk_alloc ?_ _)); exact BK508.out⟩, ⟨by repeat (first | (with_reducible first | exact HB.out | apply below_alloc | apply pw_below_drewN | apply below_drew1 | refine below_set ?_ GB39.out | refine below_set ?_ GE508.out) | exact HB.out)⟩⟩
    rw [if_pos c22] at H
    have c22b0 : decide (x36_1 < (l2.length : Int)) = true := decide_eq_true c22
    clear c22
    by_cases c23 : 0 ≤ x36_1
    rotate_left
    ·rw [if_neg c23] at H
     exact absurd H (by simp)
    rw [if_pos c23] at H
    have c23b0 : decide (0 ≤ x36_1) = true := decide_eq_true c23
    clear c23
    by_cases c24 : x36_1 < (t511.length : Int)
    rotate_left
    ·rw [if_neg c24] at H
     exact absurd H (by simp)
    rw [if_pos c24] at H
    have c24b0 : decide (x36_1 < (t511.length : Int)) = true := decide_eq_true c24
    clear c24
    by_cases c25 : (wrap64 (81 - (rd t511 x36_1))) = 0
    ·rw [if_pos c25] at H
     exact absurd H (by simp)
    rw [if_neg c25] at H
    have c25b0 : ((wrap64 (81 - (rd t511 x36_1))) == 0) = false := beq_eq_false_iff_ne.mpr c25
    have c25b1 : ((wrap64 (81 - (rd t511 x36_1))) != 0) = true := bne_iff_ne.mpr c25
    by_cases c26 : x36_1 < (x9_1.length : Int)
    rotate_left
    ·rw [if_neg c26] at H
     exact absurd H (by simp)
    rw [if_pos c26] at H
    have c26b0 : decide (x36_1 < (x9_1.length : Int)) = true := decide_eq_true c26
    clear c26
    obtain ⟨y522, hy522⟩ : ∃ y_ : List Int, y_ = (x9_1.set (x36_1 : Int).toNat (Int.tmod (wrap64 (rd l2 x36_1)) (wrap64 (81 - (rd t511 x36_1))))) := ⟨_, rfl⟩
    replace H : (if x36_1 < (x10_1.length : Int) then (w08_TreeAdds.l0 k1 l2 t509 t511 y522 (x10_1.set (x36_1 : Int).toNat (wrap64 ((rd t511 x36_1) + (rd y522 x36_1)))) (t511.length : Int) (wrap64 (x36_1 + 1)) l0_0 l0_1 l0_2 l0_3 l0_4) else (none)) = some r := by first | (rw [hy522]; with_reducible exact H) | (have H2_ := (Option.bind_some _ _).symm.trans H; rw [hy522]; with_reducible exact H2_) | (have H2_ := (Option.bind_some _ _).symm.trans H; with_reducible exact H2_) | with_reducible exact H | (rw [hy522]; exact H) | exact H
    have Ny522 := Aside0.mk hy522
    clear hy522
    by_cases c28 : x36_1 < (x10_1.length : Int)
    rotate_left
    ·rw [if_neg c28] at H
     exact absurd H (by simp)
    rw [if_pos c28] at H
    have c28b0 : decide (x36_1 < (x10_1.length : Int)) = true := decide_eq_true c28
    clear c28
    obtain ⟨y525, hy525⟩ : ∃ y_ : List Int, y_ = (x10_1.set (x36_1 : Int).toNat (wrap64 ((rd t511 x36_1) + (rd y522 x36_1)))) := ⟨_, rfl⟩
    replace H : (w08_TreeAdds.l0 k1 l2 t509 t511 y522 y525 (t511.length : Int) (wrap64 (x36_1 + 1)) l0_0 l0_1 l0_2 l0_3 l0_4) = some r := by first | (rw [hy525]; with_reducible exact H) | (have H2_ := (Option.bind_some _ _).symm.trans H; rw [hy525]; with_reducible exact H2_) | (have H2_ := (Option.bind_some _ _).symm.trans H; with_reducible exact H2_) | with_reducible exact H | (rw [hy525]; exact H) | exact H
    have Ny525 := Aside0.mk hy525
    clear hy525
    have H' := Aside0.mk H
    clear H
    try go_wp2
    have n0_ := Aside0.mk (Kd.R_drew HO_8.out)
    have n1_ := Aside0.mk (Kd.R_drew HO_9.out)
    have n2_ := Aside0.mk (Kd.R_drew HO_10.out)
    have n3_ := Aside0.mk (blk_drew BK508.out)
    have n4_ := Aside0.mk (below_drew1 HB.out)
    clear HO_8
    clear HO_9
    clear HO_10
    clear BK508
    clear HB
    have HO_8 := n0_
    have HO_9 := n1_
    have HO_10 := n2_
    have BK508 := n3_
    have HB := n4_
    clear n0_ n1_ n2_ n3_ n4_
    have p520 : 0 ≤ (x36_1 : Int) := tD
    have q520 : x36_1 < (l2.length : Int) := tD
    obtain ⟨ad520, e520, hx520_0⟩ := Kd.at_int HR2.out x36_1 p520 q520
    have hw520_0 := hx520_0
    cases e520
    replace hx520_0 := cB HB hx520_0
    replace p520 := eq_true p520
    replace q520 := eq_true q520
    have p521 : 0 ≤ (x36_1 : Int) := tD
    have q521 : x36_1 < (t511.length : Int) := tD
    obtain ⟨ad521, e521, hx521_0⟩ := Kd.at_int (Kd.R_reads' HO_8.out).2.2 x36_1 p521 q521
    cases e521
    replace p521 := eq_true p521
    replace q521 := eq_true q521
    have p27 : 0 ≤ (x36_1 : Int) := tD
    have q27 : (x36_1 : Int) < ((x9_1.length : Int) : Int) := tD
    obtain ⟨go27, co27, eo27, gb27, gl27, cl27, HG27⟩ := Kd.R_form HO_9.out (by omega)
    (first | cases eo27 | (injection eo27 with ea_ en_ ec_; (first | subst ea_ | (injection ea_ with ea_; subst ea_)); subst ec_; clear en_))
    have GB27 := Aside0.mk gb27
    have GG27 := Aside0.mk HG27
    clear gb27 gl27 HG27
    obtain ⟨hx27_0, hf27_0⟩ := Kd.R_celln 0 HO_9.out (x36_1 : Int) p27 q27
    replace p27 := eq_true p27
    replace q27 := eq_true q27
    have HP31 := Kd.R_putn HO_9.out (x36_1 : Int) (Int.tmod (wrap64 (rd l2 x36_1)) (wrap64 (81 - (rd t511 x36_1))))
    rw [← Ny522.out] at HP31
    have HQ31 := Aside0.mk HP31
    clear HP31
    refine start_ (n := 15) (S := fun w' => w'.cell? (ad520.add (x36_1).toNat) = some (.int .u8 (rd l2 x36_1)) ∧ w'.cell? (ad521.add (x36_1).toNat) = some (.int .i64 (rd t511 x36_1))) (ds := [14]) #[false, false, false, false, false, false, false, false, false, false, false, false, false, false, false] (by kernel_rfl) rfl rfl ⟨((HB.out.cell (World.block_lt_of_cell? w _ hw520_0)).trans hw520_0), hx521_0⟩ (fun hHeld => ?_); refine with_tabW w08_TreeAdds.tab11 w08_TreeAdds.bits11 (fun HT_ HW_ => ?_)
    generalize wr.drew = w30 at HO_8 HO_9 HO_10 BK508 HB GG27 HQ31 hf27_0 hx27_0 hx520_0 hx521_0 hHeld ⊢
    refine pure_ (i := 0) (N := some 43) (v := ?_) (a' := ?_) #[true, false, false, false, false, false, false, false, false, false, false, false, false, false, false] rfl rfl (any_of HT_.out (by kernel_rfl)) (fun _ _ _ h => h) (Or.inl ⟨by rfl, ?_⟩) ?_ ?_
    rotate_left
    ·intro w'
     go_simp
     with_reducible rfl
    rotate_left
    ·simp only [Act.put, List.setIfInBounds_toArray, List.set_cons_zero, List.set_cons_succ, i64_w, i32_w]
     rfl
    refine pure_ (i := 1) (N := some 44) (v := ?_) (a' := ?_) #[true, true, false, false, false, false, false, false, false, false, false, false, false, false, false] rfl rfl (any_of HT_.out (by kernel_rfl)) (fun _ _ _ h => h) (Or.inl ⟨by rfl, ?_⟩) ?_ ?_
    rotate_left
    ·intro w'
     go_simp
     with_reducible rfl
    rotate_left
    ·simp only [Act.put, List.setIfInBounds_toArray, List.set_cons_zero, List.set_cons_succ, i64_w, i32_w]
     rfl
    refine pure_ (i := 2) (N := some 45) (v := ?_) (a' := ?_) #[true, true, true, false, false, false, false, false, false, false, false, false, false, false, false] rfl rfl (any_of HT_.out (by kernel_rfl)) (fun _ _ _ h => h) (Or.inl ⟨by rfl, ?_⟩) ?_ ?_
    rotate_left
    ·intro w'
     go_simp
     with_reducible rfl
    rotate_left
    ·simp only [Act.put, List.setIfInBounds_toArray, List.set_cons_zero, List.set_cons_succ, i64_w, i32_w]
     rfl
    refine pure_ (i := 3) (N := some 46) (v := ?_) (a' := ?_) #[true, true, true, true, false, false, false, false, false, false, false, false, false, false, false] rfl rfl (any_of HT_.out (by kernel_rfl)) (fun _ _ _ h => h) (Or.inl ⟨by rfl, ?_⟩) ?_ ?_
    rotate_left
    ·intro w'
     go_simp
     with_reducible rfl
    rotate_left
    ·simp only [Act.put, List.setIfInBounds_toArray, List.set_cons_zero, List.set_cons_succ, i64_w, i32_w]
     rfl
    refine pure_ (i := 4) (N := some 47) (v := ?_) (a' := ?_) #[true, true, true, true, true, false, false, false, false, false, false, false, false, false, false] rfl rfl (any_of HT_.out (by kernel_rfl)) (fun _ _ _ h => h) (Or.inl ⟨by rfl, ?_⟩) ?_ ?_
    rotate_left
    ·intro w'
     go_simp
     with_reducible rfl
    rotate_left
    ·simp only [Act.put, List.setIfInBounds_toArray, List.set_cons_zero, List.set_cons_succ, i64_w, i32_w]
     rfl
    refine pure_ (i := 7) (N := some 50) (v := ?_) (a' := ?_) #[true, true, true, true, true, false, false, true, false, false, false, false, false, false, false] rfl rfl (any_of HT_.out (by kernel_rfl)) (fun _ _ _ h => h) (Or.inl ⟨by rfl, ?_⟩) ?_ ?_
    rotate_left
    ·intro w'
     go_simp
     with_reducible rfl
    rotate_left
    ·simp only [Act.put, List.setIfInBounds_toArray, List.set_cons_zero, List.set_cons_succ, i64_w, i32_w]
     rfl
    refine pure_ (i := 8) (N := some 51) (v := ?_) (a' := ?_) #[true, true, true, true, true, false, false, true, true, false, false, false, false, false, false] rfl rfl (any_of HT_.out (by kernel_rfl)) (fun _ _ _ h => h) (Or.inl ⟨by rfl, ?_⟩) ?_ ?_
    rotate_left
    ·intro w'
     go_simp
     with_reducible rfl
    rotate_left
    ·simp only [Act.put, List.setIfInBounds_toArray, List.set_cons_zero, List.set_cons_succ, i64_w, i32_w]
     rfl
    refine pure_ (i := 9) (N := some 52) (v := ?_) (a' := ?_) #[true, true, true, true, true, false, false, true, true, true, false, false, false, false, false] rfl rfl (any_of HT_.out (by kernel_rfl)) (fun _ _ _ h => h) (Or.inl ⟨by rfl, ?_⟩) ?_ ?_
    rotate_left
    ·intro w'
     go_simp
     with_reducible rfl
    rotate_left
    ·simp only [Act.put, List.setIfInBounds_toArray, List.set_cons_zero, List.set_cons_succ, i64_w, i32_w]
     rfl
    refine take_ (i := 5) (N := some 48) (v := ?_) (a' := ?_) #[true, true, true, true, true, true, false, true, true, true, false, false, false, false, false] rfl rfl (take_ofW HT_.out HW_.out (by kernel_rfl)) (fun _ _ _ h => h) (Or.inl ⟨by rfl, ?_⟩) hHeld ?_ ?_
    rotate_left
    ·rintro w' ⟨s0, s1⟩
     go_simp
     with_reducible rfl
    rotate_left
    ·simp only [Act.put, List.setIfInBounds_toArray, List.set_cons_zero, List.set_cons_succ, i64_w, i32_w]
     rfl
    refine pure_ (i := 6) (N := some 49) (v := ?_) (a' := ?_) #[true, true, true, true, true, true, true, true, true, true, false, false, false, false, false] rfl rfl (any_of HT_.out (by kernel_rfl)) (fun _ _ _ h => h) (Or.inl ⟨by rfl, ?_⟩) ?_ ?_
    rotate_left
    ·intro w'
     go_simp
     with_reducible rfl
    rotate_left
    ·simp only [Act.put, List.setIfInBounds_toArray, List.set_cons_zero, List.set_cons_succ, i64_w, i32_w]
     rfl
    refine take_ (i := 10) (N := some 53) (v := ?_) (a' := ?_) #[true, true, true, true, true, true, true, true, true, true, true, false, false, false, false] rfl rfl (take_ofW HT_.out HW_.out (by kernel_rfl)) (fun _ _ _ h => h) (Or.inl ⟨by rfl, ?_⟩) hHeld ?_ ?_
    rotate_left
    ·rintro w' ⟨s0, s1⟩
     go_simp
     with_reducible rfl
    rotate_left
    ·simp only [Act.put, List.setIfInBounds_toArray, List.set_cons_zero, List.set_cons_succ, i64_w, i32_w]
     rfl
    refine pure_ (i := 11) (N := some 54) (v := ?_) (a' := ?_) #[true, true, true, true, true, true, true, true, true, true, true, true, false, false, false] rfl rfl (any_of HT_.out (by kernel_rfl)) (fun _ _ _ h => h) (Or.inl ⟨by rfl, ?_⟩) ?_ ?_
    rotate_left
    ·intro w'
     go_simp
     with_reducible rfl
    rotate_left
    ·simp only [Act.put, List.setIfInBounds_toArray, List.set_cons_zero, List.set_cons_succ, i64_w, i32_w]
     rfl
    refine pure_ (i := 12) (N := some 55) (v := ?_) (a' := ?_) #[true, true, true, true, true, true, true, true, true, true, true, true, true, false, false] rfl rfl (any_of HT_.out (by kernel_rfl)) (fun _ _ _ h => h) (Or.inl ⟨by rfl, ?_⟩) ?_ ?_
    rotate_left
    ·intro w'
     go_simp
     with_reducible rfl
    rotate_left
    ·simp only [Act.put, List.setIfInBounds_toArray, List.set_cons_zero, List.set_cons_succ, i64_w, i32_w]
     rfl
    refine pure_ (i := 13) (N := some 56) (v := ?_) (a' := ?_) #[true, true, true, true, true, true, true, true, true, true, true, true, true, true, false] rfl rfl (any_of HT_.out (by kernel_rfl)) (fun _ _ _ h => h) (Or.inl ⟨by rfl, ?_⟩) ?_ ?_
    rotate_left
    ·intro w'
     go_simp
     with_reducible rfl
    rotate_left
    ·simp only [Act.put, List.setIfInBounds_toArray, List.set_cons_zero, List.set_cons_succ, i64_w, i32_w]
     rfl
    refine last_ (i := 14) (N := none) #[true, true, true, true, true, true, true, true, true, true, true, true, true, true, true] rfl rfl (one_of HT_.out (by kernel_rfl)) (by decide) (fun K hK => ?_)
    refine skip_ (w1 := ?_) (by rfl) rfl ?_ ?_
    rotate_left
    ·go_simp
     rfl
    refine hK.out _ _ ?_
    clear hK K
    refine done_ (done_of HT_.out (by kernel_rfl)) ?_
    try go_wp2
    have n0_ : Aside0 (Kd.R (Kd.int .i64) 3 (w30.setCell ⟨go27, (x36_1 : Int).toNat, none⟩ (.int .i64 (Int.tmod (wrap64 (rd l2 x36_1)) (wrap64 (81 - (rd t511 x36_1)))))) w.heap.size (fun k_ => some k_ ≠ (.slice (some ⟨go27, 0, none⟩) x9_1.length co27 : Value).ownBlock ∧ some k_ ≠ (v518 : Value).ownBlock) (.slice (some ad521) t511.length co16) t511) := ⟨by (with_reducible repeat (first | apply Kd.R_alloc | apply Kd.R_drewN | apply Kd.R_drew)); exact Kd.R_mono (Kd.R_far (p := ⟨go27, (x36_1 : Int).toNat, none⟩) (Kd.R_mono HO_8.out (fun k_ hk => (⟨hk, fun e_ => hk.1 (by rw [e_]; rfl)⟩ : _ ∧ k_ ≠ go27))) (fun _ hk => hk.2) (.int .i64 (Int.tmod (wrap64 (rd l2 x36_1)) (wrap64 (81 - (rd t511 x36_1)))))) (fun _ hk => ⟨hk.1.1, hk.1.2⟩)⟩
    have n1_ : Aside0 (Kd.R (Kd.int .i64) 3 (w30.setCell ⟨go27, (x36_1 : Int).toNat, none⟩ (.int .i64 (Int.tmod (wrap64 (rd l2 x36_1)) (wrap64 (81 - (rd t511 x36_1)))))) w.heap.size (fun k_ => some k_ ≠ (.slice (some ad521) t511.length co16 : Value).ownBlock ∧ some k_ ≠ (v518 : Value).ownBlock) (.slice (some ⟨go27, 0, none⟩) x9_1.length co27) y522) := ⟨kR HQ31⟩
    have n2_ : Aside0 (Kd.R (Kd.int .i64) 3 (w30.setCell ⟨go27, (x36_1 : Int).toNat, none⟩ (.int .i64 (Int.tmod (wrap64 (rd l2 x36_1)) (wrap64 (81 - (rd t511 x36_1)))))) w.heap.size (fun k_ => some k_ ≠ (.slice (some ad521) t511.length co16 : Value).ownBlock ∧ some k_ ≠ (.slice (some ⟨go27, 0, none⟩) x9_1.length co27 : Value).ownBlock) v518 x10_1) := ⟨by (with_reducible repeat (first | apply Kd.R_alloc | apply Kd.R_drewN | apply Kd.R_drew)); exact Kd.R_mono (Kd.R_far (p := ⟨go27, (x36_1 : Int).toNat, none⟩) (Kd.R_mono HO_10.out (fun k_ hk => (⟨hk, fun e_ => hk.2 (by rw [e_]; rfl)⟩ : _ ∧ k_ ≠ go27))) (fun _ hk => hk.2) (.int .i64 (Int.tmod (wrap64 (rd l2 x36_1)) (wrap64 (81 - (rd t511 x36_1)))))) (fun _ hk => ⟨hk.1.1, hk.1.2⟩)⟩
    have n3_ : Aside0 ((w30.setCell ⟨go27, (x36_1 : Int).toNat, none⟩ (.int .i64 (Int.tmod (wrap64 (rd l2 x36_1)) (wrap64 (81 - (rd t511 x36_1)))))).heap[gb508]? = some (.cells #[.slice A0_0 l0_0.length c0_0, .slice A0_1 l0_1.length c0_1, .slice A0_2 l0_2.length c0_2, .slice A0_3 l0_3.length c0_3, .slice A0_4 l0_4.length c0_4] 28 (0, 0))) := ⟨by (with_reducible repeat (first | refine blk_drewN ?_ _ | refine blk_drew ?_ | refine blk_alloc ?_ _)); refine blk_far ?_ (by have h_ := Kd.R_ne HO_9.out BK508.out (by decide); intro e_; exact h_ (by rw [e_]; rfl)) _; (with_reducible repeat (first | refine blk_drewN ?_ _ | refine blk_drew ?_ | refine blk_alloc ?_ _)); exact BK508.out⟩
    have n4_ : Aside0 (Below w.heap.size w (w30.setCell ⟨go27, (x36_1 : Int).toNat, none⟩ (.int .i64 (Int.tmod (wrap64 (rd l2 x36_1)) (wrap64 (81 - (rd t511 x36_1))))))) := ⟨by repeat (first | (with_reducible first | exact HB.out | apply below_alloc | apply pw_below_drewN | apply below_drew1 | refine below_set ?_ GB27.out | refine below_set ?_ GE508.out) | exact HB.out)⟩
    (try clear HO_8)
    (try clear HO_9)
    (try clear HO_10)
    (try clear BK508)
    (try clear HB)
    generalize (w30.setCell ⟨go27, (x36_1 : Int).toNat, none⟩ (.int .i64 (Int.tmod (wrap64 (rd l2 x36_1)) (wrap64 (81 - (rd t511 x36_1)))))) = w32 at n0_ n1_ n2_ n3_ n4_ ⊢
    have HO_8 := n0_
    have HO_9 := n1_
    have HO_10 := n2_
    have BK508 := n3_
    have HB := n4_
    clear n0_ n1_ n2_ n3_ n4_
    have n0_ := Aside0.mk (Kd.R_drew HO_8.out)
    have n1_ := Aside0.mk (Kd.R_drew HO_9.out)
    have n2_ := Aside0.mk (Kd.R_drew HO_10.out)
    have n3_ := Aside0.mk (blk_drew BK508.out)
    have n4_ := Aside0.mk (below_drew1 HB.out)
    clear HO_8
    clear HO_9
    clear HO_10
    clear BK508
    clear HB
    have HO_8 := n0_
    have HO_9 := n1_
    have HO_10 := n2_
    have BK508 := n3_
    have HB := n4_
    clear n0_ n1_ n2_ n3_ n4_
    have p523 : 0 ≤ (x36_1 : Int) := tD
    have q523 : x36_1 < (t511.length : Int) := tD
    obtain ⟨ad523, e523, hx523_0⟩ := Kd.at_int (Kd.R_reads' HO_8.out).2.2 x36_1 p523 q523
    obtain rfl : ad521 = ad523 := (by injection e523)
    replace p523 := eq_true p523
    replace q523 := eq_true q523
    have p524 : 0 ≤ (x36_1 : Int) := tD
    have q524 : x36_1 < (y522.length : Int) := (by have h_ : (x36_1 : Int) < ((x9_1.length : Int) : Int) := tD; first | (have e_ := (Kd.R_reads' HO_9.out).1; omega) | simpa only [Ny522.out, List.length_set] using h_)
    have ql524 : ((x36_1 : Int) < ((x9_1.length : Int) : Int)) = True := eq_true (tD)
    obtain ⟨ad524, e524, hx524_0⟩ := Kd.at_int (Kd.R_reads' HO_9.out).2.2 x36_1 p524 q524
    obtain rfl : (⟨go27, 0, none⟩ : Addr) = ad524 := (by injection e524)
    (first | simp only [add_plain] at hx524_0 | simp only [add_at] at hx524_0 | simp only [Addr.add, Nat.zero_add] at hx524_0 | skip)
    replace p524 := eq_true p524
    replace q524 := eq_true q524
    have p29 : 0 ≤ (x36_1 : Int) := tD
    have q29 : (x36_1 : Int) < ((x10_1.length : Int) : Int) := tD
    obtain ⟨go29, co29, eo29, gb29, gl29, cl29, HG29⟩ := Kd.R_form HO_10.out (by omega)
    (first | cases eo29 | (injection eo29 with ea_ en_ ec_; (first | subst ea_ | (injection ea_ with ea_; subst ea_)); subst ec_; clear en_))
    have GB29 := Aside0.mk gb29
    have GG29 := Aside0.mk HG29
    clear gb29 gl29 HG29
    obtain ⟨hx29_0, hf29_0⟩ := Kd.R_celln 0 HO_10.out (x36_1 : Int) p29 q29
    replace p29 := eq_true p29
    replace q29 := eq_true q29
    have HP34 := Kd.R_putn HO_10.out (x36_1 : Int) (wrap64 ((rd t511 x36_1) + (rd y522 x36_1)))
    rw [← Ny525.out] at HP34
    have HQ34 := Aside0.mk HP34
    clear HP34
    refine start_ (n := 13) (S := fun w' => w'.cell? (ad521.add (x36_1).toNat) = some (.int .i64 (rd t511 x36_1)) ∧ w'.cell? ⟨go27, (x36_1).toNat, none⟩ = some (.int .i64 (rd y522 x36_1))) (ds := [12]) #[false, false, false, false, false, false, false, false, false, false, false, false, false] (by kernel_rfl) rfl rfl ⟨hx523_0, hx524_0⟩ (fun hHeld => ?_); refine with_tabW w08_TreeAdds.tab12 w08_TreeAdds.bits12 (fun HT_ HW_ => ?_)
    generalize w32.drew = w33 at HO_8 HO_9 HO_10 BK508 HB GG29 HQ31 HQ34 hf29_0 hx29_0 hx523_0 hx524_0 hHeld ⊢
    refine pure_ (i := 0) (N := some 57) (v := ?_) (a' := ?_) #[true, false, false, false, false, false, false, false, false, false, false, false, false] rfl rfl (any_of HT_.out (by kernel_rfl)) (fun _ _ _ h => h) (Or.inl ⟨by rfl, ?_⟩) ?_ ?_
    rotate_left
    ·intro w'
     go_simp
     with_reducible rfl
    rotate_left
    ·simp only [Act.put, List.setIfInBounds_toArray, List.set_cons_zero, List.set_cons_succ, i64_w, i32_w]
     rfl
    refine pure_ (i := 1) (N := some 58) (v := ?_) (a' := ?_) #[true, true, false, false, false, false, false, false, false, false, false, false, false] rfl rfl (any_of HT_.out (by kernel_rfl)) (fun _ _ _ h => h) (Or.inl ⟨by rfl, ?_⟩) ?_ ?_
    rotate_left
    ·intro w'
     go_simp
     with_reducible rfl
    rotate_left
    ·simp only [Act.put, List.setIfInBounds_toArray, List.set_cons_zero, List.set_cons_succ, i64_w, i32_w]
     rfl
    refine pure_ (i := 2) (N := some 59) (v := ?_) (a' := ?_) #[true, true, true, false, false, false, false, false, false, false, false, false, false] rfl rfl (any_of HT_.out (by kernel_rfl)) (fun _ _ _ h => h) (Or.inl ⟨by rfl, ?_⟩) ?_ ?_
    rotate_left
    ·intro w'
     go_simp
     with_reducible rfl
    rotate_left
    ·simp only [Act.put, List.setIfInBounds_toArray, List.set_cons_zero, List.set_cons_succ, i64_w, i32_w]
     rfl
    refine pure_ (i := 3) (N := some 60) (v := ?_) (a' := ?_) #[true, true, true, true, false, false, false, false, false, false, false, false, false] rfl rfl (any_of HT_.out (by kernel_rfl)) (fun _ _ _ h => h) (Or.inl ⟨by rfl, ?_⟩) ?_ ?_
    rotate_left
    ·intro w'
     go_simp
     with_reducible rfl
    rotate_left
    ·simp only [Act.put, List.setIfInBounds_toArray, List.set_cons_zero, List.set_cons_succ, i64_w, i32_w]
     rfl
    refine pure_ (i := 4) (N := some 61) (v := ?_) (a' := ?_) #[true, true, true, true, true, false, false, false, false, false, false, false, false] rfl rfl (any_of HT_.out (by kernel_rfl)) (fun _ _ _ h => h) (Or.inl ⟨by rfl, ?_⟩) ?_ ?_
    rotate_left
    ·intro w'
     go_simp
     with_reducible rfl
    rotate_left
    ·simp only [Act.put, List.setIfInBounds_toArray, List.set_cons_zero, List.set_cons_succ, i64_w, i32_w]
     rfl
    refine pure_ (i := 6) (N := some 63) (v := ?_) (a' := ?_) #[true, true, true, true, true, false, true, false, false, false, false, false, false] rfl rfl (any_of HT_.out (by kernel_rfl)) (fun _ _ _ h => h) (Or.inl ⟨by rfl, ?_⟩) ?_ ?_
    rotate_left
    ·intro w'
     go_simp
     with_reducible rfl
    rotate_left
    ·simp only [Act.put, List.setIfInBounds_toArray, List.set_cons_zero, List.set_cons_succ, i64_w, i32_w]
     rfl
    refine pure_ (i := 7) (N := some 64) (v := ?_) (a' := ?_) #[true, true, true, true, true, false, true, true, false, false, false, false, false] rfl rfl (any_of HT_.out (by kernel_rfl)) (fun _ _ _ h => h) (Or.inl ⟨by rfl, ?_⟩) ?_ ?_
    rotate_left
    ·intro w'
     go_simp
     with_reducible rfl
    rotate_left
    ·simp only [Act.put, List.setIfInBounds_toArray, List.set_cons_zero, List.set_cons_succ, i64_w, i32_w]
     rfl
    refine pure_ (i := 8) (N := some 65) (v := ?_) (a' := ?_) #[true, true, true, true, true, false, true, true, true, false, false, false, false] rfl rfl (any_of HT_.out (by kernel_rfl)) (fun _ _ _ h => h) (Or.inl ⟨by rfl, ?_⟩) ?_ ?_
    rotate_left
    ·intro w'
     go_simp
     with_reducible rfl
    rotate_left
    ·simp only [Act.put, List.setIfInBounds_toArray, List.set_cons_zero, List.set_cons_succ, i64_w, i32_w]
     rfl
    refine take_ (i := 5) (N := some 62) (v := ?_) (a' := ?_) #[true, true, true, true, true, true, true, true, true, false, false, false, false] rfl rfl (take_ofW HT_.out HW_.out (by kernel_rfl)) (fun _ _ _ h => h) (Or.inl ⟨by rfl, ?_⟩) hHeld ?_ ?_
    rotate_left
    ·rintro w' ⟨s0, s1⟩
     go_simp
     with_reducible rfl
    rotate_left
    ·simp only [Act.put, List.setIfInBounds_toArray, List.set_cons_zero, List.set_cons_succ, i64_w, i32_w]
     rfl
    refine take_ (i := 9) (N := some 66) (v := ?_) (a' := ?_) #[true, true, true, true, true, true, true, true, true, true, false, false, false] rfl rfl (take_ofW HT_.out HW_.out (by kernel_rfl)) (fun _ _ _ h => h) (Or.inl ⟨by rfl, ?_⟩) hHeld ?_ ?_
    rotate_left
    ·rintro w' ⟨s0, s1⟩
     go_simp
     with_reducible rfl
    rotate_left
    ·simp only [Act.put, List.setIfInBounds_toArray, List.set_cons_zero, List.set_cons_succ, i64_w, i32_w]
     rfl
    refine pure_ (i := 10) (N := some 67) (v := ?_) (a' := ?_) #[true, true, true, true, true, true, true, true, true, true, true, false, false] rfl rfl (any_of HT_.out (by kernel_rfl)) (fun _ _ _ h => h) (Or.inl ⟨by rfl, ?_⟩) ?_ ?_
    rotate_left
    ·intro w'
     go_simp
     with_reducible rfl
    rotate_left
    ·simp only [Act.put, List.setIfInBounds_toArray, List.set_cons_zero, List.set_cons_succ, i64_w, i32_w]
     rfl
    refine pure_ (i := 11) (N := some 68) (v := ?_) (a' := ?_) #[true, true, true, true, true, true, true, true, true, true, true, true, false] rfl rfl (any_of HT_.out (by kernel_rfl)) (fun _ _ _ h => h) (Or.inl ⟨by rfl, ?_⟩) ?_ ?_
    rotate_left
    ·intro w'
     go_simp
     with_reducible rfl
    rotate_left
    ·simp only [Act.put, List.setIfInBounds_toArray, List.set_cons_zero, List.set_cons_succ, i64_w, i32_w]
     rfl
    refine last_ (i := 12) (N := none) #[true, true, true, true, true, true, true, true, true, true, true, true, true] rfl rfl (one_of HT_.out (by kernel_rfl)) (by decide) (fun K hK => ?_)
    refine skip_ (w1 := ?_) (by rfl) rfl ?_ ?_
    rotate_left
    ·go_simp
     rfl
    refine hK.out _ _ ?_
    clear hK K
    refine done_ (done_of HT_.out (by kernel_rfl)) ?_
    try go_wp2
    go_roundg k1
    case measure => have := HK1.out; omega
    case rel => exact ⟨(y522), (y525), (wrap64 (x36_1 + 1)), tQ, H', ⟨by have := HK1.out; omega⟩, ⟨by (with_reducible repeat (first | apply Kd.R_alloc | apply Kd.R_drewN | apply Kd.R_drew)); exact Kd.R_mono (Kd.R_far (p := ⟨go29, (x36_1 : Int).toNat, none⟩) (Kd.R_mono HO_8.out (fun k_ hk => (⟨hk, fun e_ => hk.2 (by rw [e_]; rfl)⟩ : _ ∧ k_ ≠ go29))) (fun _ hk => hk.2) (.int .i64 (wrap64 ((rd t511 x36_1) + (rd y522 x36_1))))) (fun _ hk => ⟨hk.1.1, hk.1.2⟩)⟩, ⟨by (with_reducible repeat (first | apply Kd.R_alloc | apply Kd.R_drewN | apply Kd.R_drew)); exact Kd.R_mono (Kd.R_far (p := ⟨go29, (x36_1 : Int).toNat, none⟩) (Kd.R_mono HO_9.out (fun k_ hk => (⟨hk, fun e_ => hk.2 (by rw [e_]; rfl)⟩ : _ ∧ k_ ≠ go29))) (fun _ hk => hk.2) (.int .i64 (wrap64 ((rd t511 x36_1) + (rd y522 x36_1))))) (fun _ hk => ⟨hk.1.1, hk.1.2⟩)⟩, ⟨kR HQ34⟩, ⟨by (with_reducible repeat (first | refine blk_drewN ?_ _ | refine blk_drew ?_ | refine blk_alloc ?_ _)); refine blk_far ?_ (by have h_ := Kd.R_ne HO_10.out BK508.out (by decide); intro e_; exact h_ (by rw [e_]; rfl)) _; (with_reducible repeat (first | refine blk_drewN ?_ _ | refine blk_drew ?_ | refine blk_alloc ?_ _)); exact BK508.out⟩, ⟨by repeat (first | (with_reducible first | exact HB.out | apply below_alloc | apply pw_below_drewN | apply below_drew1 | refine below_set ?_ GB29.out | refine below_set ?_ GE508.out) | exact HB.out)⟩⟩
   rw [if_neg c21] at H
   have c21b0 : decide (x36_1 < (t511.length : Int)) = false := decide_eq_false c21
   clear c21
   replace H := Option.bind_eq_some_iff.mp H
   obtain ⟨⟨t529, t532⟩, A430, H⟩ := H
   replace H : ((w08_loads.f l0_0 l0_1 l0_2 l0_3 l0_4 x9_1).bind fun bt533 => ((w08_loads.f l0_0 l0_1 l0_2 l0_3 l0_4 x10_1).bind fun bt537 => (if t532 = true then (if bt533.2 = true then (w08_TreeAdds.j1 k1 t509 t529 bt533.1 bt537.1 (!bt537.2)) else (w08_TreeAdds.j1 k1 t509 t529 bt533.1 bt537.1 true)) else (w08_TreeAdds.j1 k1 t509 t529 bt533.1 bt537.1 true)))) = some r := H
   have A43 := Aside0.mk A430
   clear A430
   replace H := Option.bind_eq_some_iff.mp H
   obtain ⟨⟨t533, t536⟩, A440, H⟩ := H
   replace H : ((w08_loads.f l0_0 l0_1 l0_2 l0_3 l0_4 x10_1).bind fun bt537 => (if t532 = true then (if t536 = true then (w08_TreeAdds.j1 k1 t509 t529 t533 bt537.1 (!bt537.2)) else (w08_TreeAdds.j1 k1 t509 t529 t533 bt537.1 true)) else (w08_TreeAdds.j1 k1 t509 t529 t533 bt537.1 true))) = some r := H
   have A44 := Aside0.mk A440
   clear A440
   replace H := Option.bind_eq_some_iff.mp H
   obtain ⟨⟨t537, t540⟩, A450, H⟩ := H
   replace H : (if t532 = true then (if t536 = true then (w08_TreeAdds.j1 k1 t509 t529 t533 t537 (!t540)) else (w08_TreeAdds.j1 k1 t509 t529 t533 t537 true)) else (w08_TreeAdds.j1 k1 t509 t529 t533 t537 true)) = some r := H
   have A45 := Aside0.mk A450
   clear A450
   have HC46 := Aside0.mk H
   clear H
   obtain ⟨⟨hcz47_0, hcz47_1, hcz47_2, hcz47_3, hcz47_4⟩, hfz47_0, hfz47_1, hfz47_2, hfz47_3, hfz47_4⟩ := bx5 BK508
   go_upto_region 17 with (first | ((with_reducible refine gate_callee (f := 23) rfl ?_); refine goesL_ (some 73) rfl rfl Try.func23 (by kernel_rfl) rfl #[.agg #[.slice A0_0 l0_0.length c0_0, .slice A0_1 l0_1.length c0_1, .slice A0_2 l0_2.length c0_2, .slice A0_3 l0_3.length c0_3, .slice A0_4 l0_4.length c0_4], .slice Ao16 t511.length co16] rfl tL ?_; (with_reducible refine (w08_loads.calls _ _ l0_0 _ _ l0_1 _ _ l0_2 _ _ l0_3 _ _ l0_4 _ _ t511 t529 t532 _ ?side1 ?side2 ?side3 ?side4 ?side5 ?side6 ?side7 ?side8 ?side9 ?side10 ?side11 ?side12 A43.out).mono ?_); (case side1 => repeat (first | exact (Kd.C_below HR0_0.out HB.out) | (with_reducible refine Kd.C_alloc ?_ _) | (with_reducible refine Kd.C_drewN ?_ _) | (with_reducible refine Kd.C_drew ?_))); (case side2 => exact HC0_0.out); (case side3 => repeat (first | exact (Kd.C_below HR0_1.out HB.out) | (with_reducible refine Kd.C_alloc ?_ _) | (with_reducible refine Kd.C_drewN ?_ _) | (with_reducible refine Kd.C_drew ?_))); (case side4 => exact HC0_1.out); (case side5 => repeat (first | exact (Kd.C_below HR0_2.out HB.out) | (with_reducible refine Kd.C_alloc ?_ _) | (with_reducible refine Kd.C_drewN ?_ _) | (with_reducible refine Kd.C_drew ?_))); (case side6 => exact HC0_2.out); (case side7 => repeat (first | exact (Kd.C_below HR0_3.out HB.out) | (with_reducible refine Kd.C_alloc ?_ _) | (with_reducible refine Kd.C_drewN ?_ _) | (with_reducible refine Kd.C_drew ?_))); (case side8 => exact HC0_3.out); (case side9 => repeat (first | exact (Kd.C_below HR0_4.out HB.out) | (with_reducible refine Kd.C_alloc ?_ _) | (with_reducible refine Kd.C_drewN ?_ _) | (with_reducible refine Kd.C_drew ?_))); (case side10 => exact HC0_4.out); (case side11 => exact kC (Kd.R_reads' HO_8.out).2.2); (case side12 => exact (Kd.R_reads' HO_8.out).2.1); rintro e w48 ⟨v530, rfl, ho0, hb⟩; refine ⟨_, rfl, ?_⟩; have n0_ := Aside0.mk (Kd.R_below (kR HO_8) hb); have n1_ := Aside0.mk (Kd.R_below (kR HO_9) hb); have n2_ := Aside0.mk (Kd.R_below (kR HO_10) hb); have n3_ := Aside0.mk (Kd.R_lower ho0 (below_size (kB1 HB GE508))); have n4_ := Aside0.mk (blk_below (g := gb508) (o := .cells #[.slice A0_0 l0_0.length c0_0, .slice A0_1 l0_1.length c0_1, .slice A0_2 l0_2.length c0_2, .slice A0_3 l0_3.length c0_3, .slice A0_4 l0_4.length c0_4] 28 (0, 0)) (kK BK508) hb); have n5_ := Aside0.mk (below_step (kB1 HB GE508) hb); clear HO_8; clear HO_9; clear HO_10; clear BK508; clear HB; have HO_8 := n0_; have HO_9 := n1_; have HO_10 := n2_; have HO531 := n3_; have BK508 := n4_; have HB := n5_; clear n0_ n1_ n2_ n3_ n4_ n5_; obtain ⟨⟨hcz49_0, hcz49_1, hcz49_2, hcz49_3, hcz49_4⟩, hfz49_0, hfz49_1, hfz49_2, hfz49_3, hfz49_4⟩ := bx5 BK508; obtain ⟨Ao50, co50, eo50⟩ := Kd.R_slice HO_9.out; subst eo50) | ((with_reducible refine gate_callee (f := 23) rfl ?_); refine goesL_ (some 79) rfl rfl Try.func23 (by kernel_rfl) rfl #[.agg #[.slice A0_0 l0_0.length c0_0, .slice A0_1 l0_1.length c0_1, .slice A0_2 l0_2.length c0_2, .slice A0_3 l0_3.length c0_3, .slice A0_4 l0_4.length c0_4], .slice Ao50 x9_1.length co50] rfl tL ?_; (with_reducible refine (w08_loads.calls _ _ l0_0 _ _ l0_1 _ _ l0_2 _ _ l0_3 _ _ l0_4 _ _ x9_1 t533 t536 _ ?side1 ?side2 ?side3 ?side4 ?side5 ?side6 ?side7 ?side8 ?side9 ?side10 ?side11 ?side12 A44.out).mono ?_); (case side1 => repeat (first | exact (Kd.C_below HR0_0.out HB.out) | (with_reducible refine Kd.C_alloc ?_ _) | (with_reducible refine Kd.C_drewN ?_ _) | (with_reducible refine Kd.C_drew ?_))); (case side2 => exact HC0_0.out); (case side3 => repeat (first | exact (Kd.C_below HR0_1.out HB.out) | (with_reducible refine Kd.C_alloc ?_ _) | (with_reducible refine Kd.C_drewN ?_ _) | (with_reducible refine Kd.C_drew ?_))); (case side4 => exact HC0_1.out); (case side5 => repeat (first | exact (Kd.C_below HR0_2.out HB.out) | (with_reducible refine Kd.C_alloc ?_ _) | (with_reducible refine Kd.C_drewN ?_ _) | (with_reducible refine Kd.C_drew ?_))); (case side6 => exact HC0_2.out); (case side7 => repeat (first | exact (Kd.C_below HR0_3.out HB.out) | (with_reducible refine Kd.C_alloc ?_ _) | (with_reducible refine Kd.C_drewN ?_ _) | (with_reducible refine Kd.C_drew ?_))); (case side8 => exact HC0_3.out); (case side9 => repeat (first | exact (Kd.C_below HR0_4.out HB.out) | (with_reducible refine Kd.C_alloc ?_ _) | (with_reducible refine Kd.C_drewN ?_ _) | (with_reducible refine Kd.C_drew ?_))); (case side10 => exact HC0_4.out); (case side11 => exact kC (Kd.R_reads' HO_9.out).2.2); (case side12 => exact (Kd.R_reads' HO_9.out).2.1); rintro e w51 ⟨v534, rfl, ho0, hb⟩; refine ⟨_, rfl, ?_⟩; have n0_ := Aside0.mk (Kd.R_below (kR HO_8) hb); have n1_ := Aside0.mk (Kd.R_below (kR HO_9) hb); have n2_ := Aside0.mk (Kd.R_below (kR HO_10) hb); have n3_ := Aside0.mk (Kd.R_elder' (kR HO531) (Kd.R_base ho0) hb); have n4_ := Aside0.mk (Kd.R_lower (Kd.R_new' ho0 (Kd.R_lt (kR HO531))) (below_size (kB1 HB GE508))); have n5_ := Aside0.mk (blk_below (g := gb508) (o := .cells #[.slice A0_0 l0_0.length c0_0, .slice A0_1 l0_1.length c0_1, .slice A0_2 l0_2.length c0_2, .slice A0_3 l0_3.length c0_3, .slice A0_4 l0_4.length c0_4] 28 (0, 0)) (kK BK508) hb); have n6_ := Aside0.mk (below_step (kB1 HB GE508) hb); clear HO_8; clear HO_9; clear HO_10; clear HO531; clear BK508; clear HB; have HO_8 := n0_; have HO_9 := n1_; have HO_10 := n2_; have HO531 := n3_; have HO535 := n4_; have BK508 := n5_; have HB := n6_; clear n0_ n1_ n2_ n3_ n4_ n5_ n6_; obtain ⟨⟨hcz52_0, hcz52_1, hcz52_2, hcz52_3, hcz52_4⟩, hfz52_0, hfz52_1, hfz52_2, hfz52_3, hfz52_4⟩ := bx5 BK508; obtain ⟨Ao53, co53, eo53⟩ := Kd.R_slice HO_10.out; subst eo53) | ((with_reducible refine gate_callee (f := 23) rfl ?_); refine goesL_ (some 85) rfl rfl Try.func23 (by kernel_rfl) rfl #[.agg #[.slice A0_0 l0_0.length c0_0, .slice A0_1 l0_1.length c0_1, .slice A0_2 l0_2.length c0_2, .slice A0_3 l0_3.length c0_3, .slice A0_4 l0_4.length c0_4], .slice Ao53 x10_1.length co53] rfl tL ?_; (with_reducible refine (w08_loads.calls _ _ l0_0 _ _ l0_1 _ _ l0_2 _ _ l0_3 _ _ l0_4 _ _ x10_1 t537 t540 _ ?side1 ?side2 ?side3 ?side4 ?side5 ?side6 ?side7 ?side8 ?side9 ?side10 ?side11 ?side12 A45.out).mono ?_); (case side1 => repeat (first | exact (Kd.C_below HR0_0.out HB.out) | (with_reducible refine Kd.C_alloc ?_ _) | (with_reducible refine Kd.C_drewN ?_ _) | (with_reducible refine Kd.C_drew ?_))); (case side2 => exact HC0_0.out); (case side3 => repeat (first | exact (Kd.C_below HR0_1.out HB.out) | (with_reducible refine Kd.C_alloc ?_ _) | (with_reducible refine Kd.C_drewN ?_ _) | (with_reducible refine Kd.C_drew ?_))); (case side4 => exact HC0_1.out); (case side5 => repeat (first | exact (Kd.C_below HR0_2.out HB.out) | (with_reducible refine Kd.C_alloc ?_ _) | (with_reducible refine Kd.C_drewN ?_ _) | (with_reducible refine Kd.C_drew ?_))); (case side6 => exact HC0_2.out); (case side7 => repeat (first | exact (Kd.C_below HR0_3.out HB.out) | (with_reducible refine Kd.C_alloc ?_ _) | (with_reducible refine Kd.C_drewN ?_ _) | (with_reducible refine Kd.C_drew ?_))); (case side8 => exact HC0_3.out); (case side9 => repeat (first | exact (Kd.C_below HR0_4.out HB.out) | (with_reducible refine Kd.C_alloc ?_ _) | (with_reducible refine Kd.C_drewN ?_ _) | (with_reducible refine Kd.C_drew ?_))); (case side10 => exact HC0_4.out); (case side11 => exact kC (Kd.R_reads' HO_10.out).2.2); (case side12 => exact (Kd.R_reads' HO_10.out).2.1); rintro e w54 ⟨v538, rfl, ho0, hb⟩; refine ⟨_, rfl, ?_⟩; have n0_ := Aside0.mk (Kd.R_below (kR HO_8) hb); have n1_ := Aside0.mk (Kd.R_below (kR HO_9) hb); have n2_ := Aside0.mk (Kd.R_below (kR HO_10) hb); have n3_ := Aside0.mk (Kd.R_elder' (kR HO531) (Kd.R_base ho0) hb); have n4_ := Aside0.mk (Kd.R_elder' (kR HO535) (Kd.R_base ho0) hb); have n5_ := Aside0.mk (Kd.R_lower (Kd.R_new' (Kd.R_new' ho0 (Kd.R_lt (kR HO531))) (Kd.R_lt (kR HO535))) (below_size (kB1 HB GE508))); have n6_ := Aside0.mk (blk_below (g := gb508) (o := .cells #[.slice A0_0 l0_0.length c0_0, .slice A0_1 l0_1.length c0_1, .slice A0_2 l0_2.length c0_2, .slice A0_3 l0_3.length c0_3, .slice A0_4 l0_4.length c0_4] 28 (0, 0)) (kK BK508) hb); have n7_ := Aside0.mk (below_step (kB1 HB GE508) hb); clear HO_8; clear HO_9; clear HO_10; clear HO531; clear HO535; clear BK508; clear HB; have HO_8 := n0_; have HO_9 := n1_; have HO_10 := n2_; have HO531 := n3_; have HO535 := n4_; have HO539 := n5_; have BK508 := n6_; have HB := n7_; clear n0_ n1_ n2_ n3_ n4_ n5_ n6_ n7_))
   (try simp only [Act.put, List.setIfInBounds_toArray, List.set_cons_zero, List.set_cons_succ])
   go_cut [97] (fun v97 wc => ∃ (kq : Nat) (x97_45 : Bool), v97 = .bool x97_45 ∧ Aside0 (w08_TreeAdds.j1 kq t509 t529 t533 t537 x97_45 = some r) ∧ Aside0 (kq ≤ k1) ∧ Aside0 (Kd.R k55 55 wc w.heap.size (fun k_ => some k_ ≠ (v534 : Value).ownBlock ∧ some k_ ≠ (v538 : Value).ownBlock) v530 t529) ∧ Aside0 (Kd.R k55 55 wc w.heap.size (fun k_ => some k_ ≠ (v530 : Value).ownBlock ∧ some k_ ≠ (v538 : Value).ownBlock) v534 t533) ∧ Aside0 (Kd.R k55 55 wc w.heap.size (fun k_ => some k_ ≠ (v530 : Value).ownBlock ∧ some k_ ≠ (v534 : Value).ownBlock) v538 t537) ∧ Aside0 (wc.heap[gb508]? = some (.cells #[(.slice A0_0 l0_0.length c0_0), (.slice A0_1 l0_1.length c0_1), (.slice A0_2 l0_2.length c0_2), (.slice A0_3 l0_3.length c0_3), (.slice A0_4 l0_4.length c0_4)] 28 (0, 0))) ∧ Aside0 (Below w.heap.size w wc))
   case first =>
    have H := HC46.out
    clear HC46
    by_cases c55 : t532 = true
    rotate_left
    ·replace c55 := Bool.eq_false_iff.mpr c55
     subst c55
     have H1 : (w08_TreeAdds.j1 k1 t509 t529 t533 t537 true) = some r := by rw [if_neg (show ¬ (false = true) by decide)] at H; exact H
     clear H
     have H := H1
     clear H1
     have H' := Aside0.mk H
     clear H
     go_wp2
     go_meet
     case rel => exact ⟨_, (true), tQ, H', ⟨by have := HK1.out; first | omega | exact Nat.le_refl _⟩, ⟨by (with_reducible repeat (first | apply Kd.R_alloc | apply Kd.R_drewN | apply Kd.R_drew)); exact Kd.R_mono HO531.out (fun _ hk => ⟨hk.1.2, hk.2⟩)⟩, ⟨by (with_reducible repeat (first | apply Kd.R_alloc | apply Kd.R_drewN | apply Kd.R_drew)); exact Kd.R_mono HO535.out (fun _ hk => ⟨hk.1.2, hk.2⟩)⟩, ⟨by (with_reducible repeat (first | apply Kd.R_alloc | apply Kd.R_drewN | apply Kd.R_drew)); exact Kd.R_mono HO539.out (fun _ hk => ⟨hk.1.2, hk.2⟩)⟩, ⟨kK BK508⟩, ⟨kB1 HB GE508⟩⟩
    subst c55
    have H1 : (if t536 = true then (w08_TreeAdds.j1 k1 t509 t529 t533 t537 (!t540)) else (w08_TreeAdds.j1 k1 t509 t529 t533 t537 true)) = some r := by rw [if_pos rfl] at H; exact H
    clear H
    have H := H1
    clear H1
    by_cases c56 : t536 = true
    ·subst c56
     have H1 : (w08_TreeAdds.j1 k1 t509 t529 t533 t537 (!t540)) = some r := by rw [if_pos rfl] at H; exact H
     clear H
     have H := H1
     clear H1
     have H' := Aside0.mk H
     clear H
     go_wp2
     go_meet
     case rel => exact ⟨_, (!t540), tQ, H', ⟨by have := HK1.out; first | omega | exact Nat.le_refl _⟩, ⟨by (with_reducible repeat (first | apply Kd.R_alloc | apply Kd.R_drewN | apply Kd.R_drew)); exact Kd.R_mono HO531.out (fun _ hk => ⟨hk.1.2, hk.2⟩)⟩, ⟨by (with_reducible repeat (first | apply Kd.R_alloc | apply Kd.R_drewN | apply Kd.R_drew)); exact Kd.R_mono HO535.out (fun _ hk => ⟨hk.1.2, hk.2⟩)⟩, ⟨by (with_reducible repeat (first | apply Kd.R_alloc | apply Kd.R_drewN | apply Kd.R_drew)); exact Kd.R_mono HO539.out (fun _ hk => ⟨hk.1.2, hk.2⟩)⟩, ⟨kK BK508⟩, ⟨kB1 HB GE508⟩⟩
    replace c56 := Bool.eq_false_iff.mpr c56
    subst c56
    have H1 : (w08_TreeAdds.j1 k1 t509 t529 t533 t537 true) = some r := by rw [if_neg (show ¬ (false = true) by decide)] at H; exact H
    clear H
    have H := H1
    clear H1
    have H' := Aside0.mk H
    clear H
    go_wp2
    go_meet
    case rel => exact ⟨_, (true), tQ, H', ⟨by have := HK1.out; first | omega | exact Nat.le_refl _⟩, ⟨by (with_reducible repeat (first | apply Kd.R_alloc | apply Kd.R_drewN | apply Kd.R_drew)); exact Kd.R_mono HO531.out (fun _ hk => ⟨hk.1.2, hk.2⟩)⟩, ⟨by (with_reducible repeat (first | apply Kd.R_alloc | apply Kd.R_drewN | apply Kd.R_drew)); exact Kd.R_mono HO535.out (fun _ hk => ⟨hk.1.2, hk.2⟩)⟩, ⟨by (with_reducible repeat (first | apply Kd.R_alloc | apply Kd.R_drewN | apply Kd.R_drew)); exact Kd.R_mono HO539.out (fun _ hk => ⟨hk.1.2, hk.2⟩)⟩, ⟨kK BK508⟩, ⟨kB1 HB GE508⟩⟩
   case rest =>
    clear HC46
    obtain ⟨kq, x97_45, rfl, HA, HJ45, HO_12, HO_14, HO_16, BK508, HB⟩ := hcut
    cases kq with
    | zero => exact absurd HA.out (by simp [w08_TreeAdds.j1])
    | succ kj45 =>
     have H := HA.out
     clear HA
     simp only [w08_TreeAdds.j1] at H
     by_cases c57 : x97_45 = true
     ·subst c57
      have H1 : (some false) = some r := by rw [if_pos rfl] at H; exact H
      clear H
      have H := H1
      clear H1
      obtain rfl := Option.some.inj H
      go_wp2
      go_ret
      exact ⟨by first | rfl | (simp [errW_none, errW_some] <;> rfl) | (simp [*, errW_none, errW_some] <;> rfl), kB1 HB GE508⟩
     replace c57 := Bool.eq_false_iff.mpr c57
     subst c57
     have H1 : (w08_TreeAdds.l1 kj45 t509 t529 t533 t537 (t537.length : Int) 0) = some r := by rw [if_neg (show ¬ (false = true) by decide)] at H; exact H
     clear H
     have H := H1
     clear H1
     have H' := Aside0.mk H
     clear H
     obtain ⟨Ao58, co58, eo58⟩ := Kd.R_slice HO_16.out
     subst eo58
     go_wp2
     go_loopg [100] kj45 (fun kq v100 w' => ∃ (x100_3 : Int), v100 = .int .i64 x100_3 ∧ Aside0 (w08_TreeAdds.l1 kq t509 t529 t533 t537 (t537.length : Int) x100_3 = some r) ∧ Aside0 (kq ≤ kj45) ∧ Aside0 (Kd.R k55 55 w' w.heap.size (fun k_ => some k_ ≠ (v534 : Value).ownBlock ∧ some k_ ≠ ((.slice Ao58 t537.length co58) : Value).ownBlock) v530 t529) ∧ Aside0 (Kd.R k55 55 w' w.heap.size (fun k_ => some k_ ≠ (v530 : Value).ownBlock ∧ some k_ ≠ ((.slice Ao58 t537.length co58) : Value).ownBlock) v534 t533) ∧ Aside0 (Kd.R k55 55 w' w.heap.size (fun k_ => some k_ ≠ (v530 : Value).ownBlock ∧ some k_ ≠ (v534 : Value).ownBlock) (.slice Ao58 t537.length co58) t537) ∧ Aside0 (w'.heap[gb508]? = some (.cells #[(.slice A0_0 l0_0.length c0_0), (.slice A0_1 l0_1.length c0_1), (.slice A0_2 l0_2.length c0_2), (.slice A0_3 l0_3.length c0_3), (.slice A0_4 l0_4.length c0_4)] 28 (0, 0))) ∧ Aside0 (Below w.heap.size w w'))
     case atStart => exact ⟨(0), tQ, H', ⟨Nat.le_refl _⟩, ⟨kR HO_12⟩, ⟨kR HO_14⟩, ⟨kR HO_16⟩, ⟨kK BK508⟩, ⟨kB1 HB GE508⟩⟩
     case round =>
      clear H'
      obtain ⟨x100_3, rfl, HA, HK3, HO_12, HO_14, HO_16, BK508, HB⟩ := hrel
      cases gk with
      | zero => exact absurd HA.out (by simp [w08_TreeAdds.l1])
      | succ k3 =>
       have H := HA.out
       clear HA
       simp only [w08_TreeAdds.l1] at H
       by_cases c59 : x100_3 < (t537.length : Int)
       rotate_left
       ·rw [if_neg c59] at H
        have c59b0 : decide (x100_3 < (t537.length : Int)) = false := decide_eq_false c59
        clear c59
        obtain rfl := Option.some.inj H
        go_wp2
        go_ret
        exact ⟨by first | rfl | (simp [errW_none, errW_some] <;> rfl) | (simp [*, errW_none, errW_some] <;> rfl), kB1 HB GE508⟩
       rw [if_pos c59] at H
       have c59b0 : decide (x100_3 < (t537.length : Int)) = true := decide_eq_true c59
       clear c59
       have H' := Aside0.mk H
       clear H
       go_wp2
       go_loopg [103] k3 (fun kq v103 w' => ∃ (x103_4 : Int), v103 = .int .i64 x103_4 ∧ Aside0 (w08_TreeAdds.l2 kq t509 t529 t533 t537 x100_3 (t537.length : Int) x100_3 x103_4 = some r) ∧ Aside0 (kq ≤ k3) ∧ Aside0 (Kd.R k55 55 w' w.heap.size (fun k_ => some k_ ≠ (v534 : Value).ownBlock ∧ some k_ ≠ ((.slice Ao58 t537.length co58) : Value).ownBlock) v530 t529) ∧ Aside0 (Kd.R k55 55 w' w.heap.size (fun k_ => some k_ ≠ (v530 : Value).ownBlock ∧ some k_ ≠ ((.slice Ao58 t537.length co58) : Value).ownBlock) v534 t533) ∧ Aside0 (Kd.R k55 55 w' w.heap.size (fun k_ => some k_ ≠ (v530 : Value).ownBlock ∧ some k_ ≠ (v534 : Value).ownBlock) (.slice Ao58 t537.length co58) t537) ∧ Aside0 (w'.heap[gb508]? = some (.cells #[(.slice A0_0 l0_0.length c0_0), (.slice A0_1 l0_1.length c0_1), (.slice A0_2 l0_2.length c0_2), (.slice A0_3 l0_3.length c0_3), (.slice A0_4 l0_4.length c0_4)] 28 (0, 0))) ∧ Aside0 (Below w.heap.size w w'))
       case atStart => exact ⟨(0), tQ, H', ⟨Nat.le_refl _⟩, ⟨kR HO_12⟩, ⟨kR HO_14⟩, ⟨kR HO_16⟩, ⟨kK BK508⟩, ⟨kB1 HB GE508⟩⟩
       case round =>
        clear H'
        obtain ⟨x103_4, rfl, HA, HK4, HO_12, HO_14, HO_16, BK508, HB⟩ := hrel
        cases gk with
        | zero => exact absurd HA.out (by simp [w08_TreeAdds.l2])
        | succ k4 =>
         have H := HA.out
         clear HA
         simp only [w08_TreeAdds.l2] at H
         by_cases c60 : x103_4 < 3
         rotate_left
         ·rw [if_neg c60] at H
          have c60b0 : decide (x103_4 < 3) = false := decide_eq_false c60
          clear c60
          have H' := Aside0.mk H
          clear H
          go_wp2
          go_roundg k4
          case measure => have := HK1.out; have := HJ45.out; have := HK3.out; have := HK4.out; omega
          case rel => exact ⟨(wrap64 (x100_3 + 1)), tQ, H', ⟨by have := HK1.out; have := HJ45.out; have := HK3.out; have := HK4.out; omega⟩, ⟨kR HO_12⟩, ⟨kR HO_14⟩, ⟨kR HO_16⟩, ⟨kK BK508⟩, ⟨kB1 HB GE508⟩⟩
         rw [if_pos c60] at H
         have c60b0 : decide (x103_4 < 3) = true := decide_eq_true c60
         clear c60
         by_cases c61 : 0 ≤ x100_3
         rotate_left
         ·rw [if_neg c61] at H
          exact absurd H (by simp)
         rw [if_pos c61] at H
         have c61b0 : decide (0 ≤ x100_3) = true := decide_eq_true c61
         clear c61
         by_cases c62 : x100_3 < (t537.length : Int)
         rotate_left
         ·rw [if_neg c62] at H
          exact absurd H (by simp)
         rw [if_pos c62] at H
         have c62b0 : decide (x100_3 < (t537.length : Int)) = true := decide_eq_true c62
         clear c62
         by_cases c63 : x103_4 = 0
         ·rw [if_pos c63] at H
          have c63b0 : (x103_4 == 0) = true := beq_iff_eq.mpr c63
          have c63b1 : (x103_4 != 0) = false := bne_eq_false_iff_eq.mpr c63
          have c63b2 : ∀ (a_ : Addr) (W_ : World), (Instr.indexAt 55 (.pointer (some a_)) (.int .i64 x103_4)).run Try.prog W_ = .ok (.pointer (some (a_.add 0))) W_ := fun a_ W_ => ix_arr Try.underlying55 (fun W_ => by go_simp) 0 (by decide) x103_4 c63 a_ W_
          clear c63
          by_cases c64 : x100_3 < (t529.length : Int)
          rotate_left
          ·rw [if_neg c64] at H
           exact absurd H (by simp)
          rw [if_pos c64] at H
          have c64b0 : decide (x100_3 < (t529.length : Int)) = true := decide_eq_true c64
          clear c64
          by_cases c65 : x100_3 < (t533.length : Int)
          rotate_left
          ·rw [if_neg c65] at H
           exact absurd H (by simp)
          rw [if_pos c65] at H
          have c65b0 : decide (x100_3 < (t533.length : Int)) = true := decide_eq_true c65
          clear c65
          by_cases c66 : ((rd_T55 t537 x100_3).f0) = (wrap64 (((rd_T55 t529 x100_3).f0) + ((rd_T55 t533 x100_3).f0)))
          rotate_left
          ·rw [if_neg c66] at H
           have c66b0 : (((rd_T55 t537 x100_3).f0) == (wrap64 (((rd_T55 t529 x100_3).f0) + ((rd_T55 t533 x100_3).f0)))) = false := beq_eq_false_iff_ne.mpr c66
           have c66b1 : (((rd_T55 t537 x100_3).f0) != (wrap64 (((rd_T55 t529 x100_3).f0) + ((rd_T55 t533 x100_3).f0)))) = true := bne_iff_ne.mpr c66
           obtain rfl := Option.some.inj H
           try go_wp2
           have n0_ := Aside0.mk (Kd.R_drew HO_12.out)
           have n1_ := Aside0.mk (Kd.R_drew HO_14.out)
           have n2_ := Aside0.mk (Kd.R_drew HO_16.out)
           have n3_ := Aside0.mk (blk_drew BK508.out)
           have n4_ := Aside0.mk (below_drew1 HB.out)
           clear HO_12
           clear HO_14
           clear HO_16
           clear BK508
           clear HB
           have HO_12 := n0_
           have HO_14 := n1_
           have HO_16 := n2_
           have BK508 := n3_
           have HB := n4_
           clear n0_ n1_ n2_ n3_ n4_
           have p541 : 0 ≤ (x100_3 : Int) := tD
           have q541 : x100_3 < (t537.length : Int) := tD
           obtain ⟨ad541, e541, hx541_0, hx541_1, hx541_2⟩ := at_T55 (Kd.R_reads' HO_16.out).2.2 x100_3 p541 q541
           cases e541
           replace p541 := eq_true p541
           replace q541 := eq_true q541
           obtain ⟨Ao71, co71, eo71⟩ := Kd.R_slice HO_12.out
           (first | subst eo71 | (injection eo71 with f1_ f2_ f3_; have f4_ := f1_.symm; have f5_ := f3_.symm; clear f1_ f2_ f3_; subst f4_; subst f5_))
           have p542 : 0 ≤ (x100_3 : Int) := tD
           have q542 : x100_3 < (t529.length : Int) := tD
           obtain ⟨ad542, e542, hx542_0, hx542_1, hx542_2⟩ := at_T55 (Kd.R_reads' HO_12.out).2.2 x100_3 p542 q542
           cases e542
           replace p542 := eq_true p542
           replace q542 := eq_true q542
           obtain ⟨Ao72, co72, eo72⟩ := Kd.R_slice HO_14.out
           (first | subst eo72 | (injection eo72 with f1_ f2_ f3_; have f4_ := f1_.symm; have f5_ := f3_.symm; clear f1_ f2_ f3_; subst f4_; subst f5_))
           have p543 : 0 ≤ (x100_3 : Int) := tD
           have q543 : x100_3 < (t533.length : Int) := tD
           obtain ⟨ad543, e543, hx543_0, hx543_1, hx543_2⟩ := at_T55 (Kd.R_reads' HO_14.out).2.2 x100_3 p543 q543
           cases e543
           replace p543 := eq_true p543
           replace q543 := eq_true q543
           refine start_ (n := 20) (S := fun w' => w'.cell? (ad541.add ((x100_3).toNat * 3)) = some (.int .i64 ((rd_T55 t537 x100_3).f0)) ∧ w'.cell? ⟨(ad541.add ((x100_3).toNat * 3)).block, (ad541.add ((x100_3).toNat * 3)).off + 1, none⟩ = some (.int .i64 ((rd_T55 t537 x100_3).f1)) ∧ w'.cell? ⟨(ad541.add ((x100_3).toNat * 3)).block, (ad541.add ((x100_3).toNat * 3)).off + 2, none⟩ = some (.int .i64 ((rd_T55 t537 x100_3).f2)) ∧ w'.cell? (ad542.add ((x100_3).toNat * 3)) = some (.int .i64 ((rd_T55 t529 x100_3).f0)) ∧ w'.cell? ⟨(ad542.add ((x100_3).toNat * 3)).block, (ad542.add ((x100_3).toNat * 3)).off + 1, none⟩ = some (.int .i64 ((rd_T55 t529 x100_3).f1)) ∧ w'.cell? ⟨(ad542.add ((x100_3).toNat * 3)).block, (ad542.add ((x100_3).toNat * 3)).off + 2, none⟩ = some (.int .i64 ((rd_T55 t529 x100_3).f2)) ∧ w'.cell? (ad543.add ((x100_3).toNat * 3)) = some (.int .i64 ((rd_T55 t533 x100_3).f0)) ∧ w'.cell? ⟨(ad543.add ((x100_3).toNat * 3)).block, (ad543.add ((x100_3).toNat * 3)).off + 1, none⟩ = some (.int .i64 ((rd_T55 t533 x100_3).f1)) ∧ w'.cell? ⟨(ad543.add ((x100_3).toNat * 3)).block, (ad543.add ((x100_3).toNat * 3)).off + 2, none⟩ = some (.int .i64 ((rd_T55 t533 x100_3).f2))) (ds := []) #[false, false, false, false, false, false, false, false, false, false, false, false, false, false, false, false, false, false, false, false] (by kernel_rfl) rfl rfl ⟨hx541_0, hx541_1, hx541_2, hx542_0, hx542_1, hx542_2, hx543_0, hx543_1, hx543_2⟩ (fun hHeld => ?_); refine with_tabW w08_TreeAdds.tab25 w08_TreeAdds.bits25 (fun HT_ HW_ => ?_)
           generalize wr.drew = w70 at HO_12 HO_14 HO_16 BK508 HB hx541_0 hx541_1 hx541_2 hx542_0 hx542_1 hx542_2 hx543_0 hx543_1 hx543_2 hHeld ⊢
           refine pure_ (i := 0) (N := some 106) (v := ?_) (a' := ?_) #[true, false, false, false, false, false, false, false, false, false, false, false, false, false, false, false, false, false, false, false] rfl rfl (any_of HT_.out (by kernel_rfl)) (fun _ _ _ h => h) (Or.inl ⟨by rfl, ?_⟩) ?_ ?_
           rotate_left
           ·intro w'
            go_simp
            with_reducible rfl
           rotate_left
           ·simp only [Act.put, List.setIfInBounds_toArray, List.set_cons_zero, List.set_cons_succ, i64_w, i32_w]
            rfl
           refine pure_ (i := 1) (N := some 107) (v := ?_) (a' := ?_) #[true, true, false, false, false, false, false, false, false, false, false, false, false, false, false, false, false, false, false, false] rfl rfl (any_of HT_.out (by kernel_rfl)) (fun _ _ _ h => h) (Or.inl ⟨by rfl, ?_⟩) ?_ ?_
           rotate_left
           ·intro w'
            go_simp
            with_reducible rfl
           rotate_left
           ·simp only [Act.put, List.setIfInBounds_toArray, List.set_cons_zero, List.set_cons_succ, i64_w, i32_w]
            rfl
           refine pure_ (i := 2) (N := some 108) (v := ?_) (a' := ?_) #[true, true, true, false, false, false, false, false, false, false, false, false, false, false, false, false, false, false, false, false] rfl rfl (any_of HT_.out (by kernel_rfl)) (fun _ _ _ h => h) (Or.inl ⟨by rfl, ?_⟩) ?_ ?_
           rotate_left
           ·intro w'
            go_simp
            with_reducible rfl
           rotate_left
           ·simp only [Act.put, List.setIfInBounds_toArray, List.set_cons_zero, List.set_cons_succ, i64_w, i32_w]
            rfl
           refine pure_ (i := 3) (N := some 109) (v := ?_) (a' := ?_) #[true, true, true, true, false, false, false, false, false, false, false, false, false, false, false, false, false, false, false, false] rfl rfl (any_of HT_.out (by kernel_rfl)) (fun _ _ _ h => h) (Or.inl ⟨by rfl, ?_⟩) ?_ ?_
           rotate_left
           ·intro w'
            go_simp
            with_reducible rfl
           rotate_left
           ·simp only [Act.put, List.setIfInBounds_toArray, List.set_cons_zero, List.set_cons_succ, i64_w, i32_w]
            rfl
           refine pure_ (i := 4) (N := some 110) (v := ?_) (a' := ?_) #[true, true, true, true, true, false, false, false, false, false, false, false, false, false, false, false, false, false, false, false] rfl rfl (any_of HT_.out (by kernel_rfl)) (fun _ _ _ h => h) (Or.inl ⟨by rfl, ?_⟩) ?_ ?_
           rotate_left
           ·intro w'
            go_simp
            with_reducible rfl
           rotate_left
           ·simp only [Act.put, List.setIfInBounds_toArray, List.set_cons_zero, List.set_cons_succ, i64_w, i32_w]
            rfl
           refine pure_ (i := 6) (N := some 112) (v := ?_) (a' := ?_) #[true, true, true, true, true, false, true, false, false, false, false, false, false, false, false, false, false, false, false, false] rfl rfl (any_of HT_.out (by kernel_rfl)) (fun _ _ _ h => h) (Or.inl ⟨by rfl, ?_⟩) ?_ ?_
           rotate_left
           ·intro w'
            go_simp
            with_reducible rfl
           rotate_left
           ·simp only [Act.put, List.setIfInBounds_toArray, List.set_cons_zero, List.set_cons_succ, i64_w, i32_w]
            rfl
           refine pure_ (i := 7) (N := some 113) (v := ?_) (a' := ?_) #[true, true, true, true, true, false, true, true, false, false, false, false, false, false, false, false, false, false, false, false] rfl rfl (any_of HT_.out (by kernel_rfl)) (fun _ _ _ h => h) (Or.inl ⟨by rfl, ?_⟩) ?_ ?_
           rotate_left
           ·intro w'
            go_simp
            with_reducible rfl
           rotate_left
           ·simp only [Act.put, List.setIfInBounds_toArray, List.set_cons_zero, List.set_cons_succ, i64_w, i32_w]
            rfl
           refine pure_ (i := 8) (N := some 114) (v := ?_) (a' := ?_) #[true, true, true, true, true, false, true, true, true, false, false, false, false, false, false, false, false, false, false, false] rfl rfl (any_of HT_.out (by kernel_rfl)) (fun _ _ _ h => h) (Or.inl ⟨by rfl, ?_⟩) ?_ ?_
           rotate_left
           ·intro w'
            go_simp
            with_reducible rfl
           rotate_left
           ·simp only [Act.put, List.setIfInBounds_toArray, List.set_cons_zero, List.set_cons_succ, i64_w, i32_w]
            rfl
           refine pure_ (i := 9) (N := some 115) (v := ?_) (a' := ?_) #[true, true, true, true, true, false, true, true, true, true, false, false, false, false, false, false, false, false, false, false] rfl rfl (any_of HT_.out (by kernel_rfl)) (fun _ _ _ h => h) (Or.inl ⟨by rfl, ?_⟩) ?_ ?_
           rotate_left
           ·intro w'
            go_simp
            with_reducible rfl
           rotate_left
           ·simp only [Act.put, List.setIfInBounds_toArray, List.set_cons_zero, List.set_cons_succ, i64_w, i32_w]
            rfl
           refine pure_ (i := 10) (N := some 116) (v := ?_) (a' := ?_) #[true, true, true, true, true, false, true, true, true, true, true, false, false, false, false, false, false, false, false, false] rfl rfl (any_of HT_.out (by kernel_rfl)) (fun _ _ _ h => h) (Or.inl ⟨by rfl, ?_⟩) ?_ ?_
           rotate_left
           ·intro w'
            go_simp
            with_reducible rfl
           rotate_left
           ·simp only [Act.put, List.setIfInBounds_toArray, List.set_cons_zero, List.set_cons_succ, i64_w, i32_w]
            rfl
           refine pure_ (i := 12) (N := some 118) (v := ?_) (a' := ?_) #[true, true, true, true, true, false, true, true, true, true, true, false, true, false, false, false, false, false, false, false] rfl rfl (any_of HT_.out (by kernel_rfl)) (fun _ _ _ h => h) (Or.inl ⟨by rfl, ?_⟩) ?_ ?_
           rotate_left
           ·intro w'
            go_simp
            with_reducible rfl
           rotate_left
           ·simp only [Act.put, List.setIfInBounds_toArray, List.set_cons_zero, List.set_cons_succ, i64_w, i32_w]
            rfl
           refine pure_ (i := 13) (N := some 119) (v := ?_) (a' := ?_) #[true, true, true, true, true, false, true, true, true, true, true, false, true, true, false, false, false, false, false, false] rfl rfl (any_of HT_.out (by kernel_rfl)) (fun _ _ _ h => h) (Or.inl ⟨by rfl, ?_⟩) ?_ ?_
           rotate_left
           ·intro w'
            go_simp
            with_reducible rfl
           rotate_left
           ·simp only [Act.put, List.setIfInBounds_toArray, List.set_cons_zero, List.set_cons_succ, i64_w, i32_w]
            rfl
           refine pure_ (i := 14) (N := some 120) (v := ?_) (a' := ?_) #[true, true, true, true, true, false, true, true, true, true, true, false, true, true, true, false, false, false, false, false] rfl rfl (any_of HT_.out (by kernel_rfl)) (fun _ _ _ h => h) (Or.inl ⟨by rfl, ?_⟩) ?_ ?_
           rotate_left
           ·intro w'
            go_simp
            with_reducible rfl
           rotate_left
           ·simp only [Act.put, List.setIfInBounds_toArray, List.set_cons_zero, List.set_cons_succ, i64_w, i32_w]
            rfl
           refine pure_ (i := 15) (N := some 121) (v := ?_) (a' := ?_) #[true, true, true, true, true, false, true, true, true, true, true, false, true, true, true, true, false, false, false, false] rfl rfl (any_of HT_.out (by kernel_rfl)) (fun _ _ _ h => h) (Or.inl ⟨by rfl, ?_⟩) ?_ ?_
           rotate_left
           ·intro w'
            go_simp
            with_reducible rfl
           rotate_left
           ·simp only [Act.put, List.setIfInBounds_toArray, List.set_cons_zero, List.set_cons_succ, i64_w, i32_w]
            rfl
           refine pure_ (i := 16) (N := some 122) (v := ?_) (a' := ?_) #[true, true, true, true, true, false, true, true, true, true, true, false, true, true, true, true, true, false, false, false] rfl rfl (any_of HT_.out (by kernel_rfl)) (fun _ _ _ h => h) (Or.inl ⟨by rfl, ?_⟩) ?_ ?_
           rotate_left
           ·intro w'
            go_simp
            with_reducible rfl
           rotate_left
           ·simp only [Act.put, List.setIfInBounds_toArray, List.set_cons_zero, List.set_cons_succ, i64_w, i32_w]
            rfl
           refine take_ (i := 5) (N := some 111) (v := ?_) (a' := ?_) #[true, true, true, true, true, true, true, true, true, true, true, false, true, true, true, true, true, false, false, false] rfl rfl (take_ofW HT_.out HW_.out (by kernel_rfl)) (fun _ _ _ h => h) (Or.inl ⟨by rfl, ?_⟩) hHeld ?_ ?_
           rotate_left
           ·rintro w' ⟨s0, s1, s2, s3, s4, s5, s6, s7, s8⟩
            go_simp
            with_reducible rfl
           rotate_left
           ·simp only [Act.put, List.setIfInBounds_toArray, List.set_cons_zero, List.set_cons_succ, i64_w, i32_w]
            rfl
           refine take_ (i := 11) (N := some 117) (v := ?_) (a' := ?_) #[true, true, true, true, true, true, true, true, true, true, true, true, true, true, true, true, true, false, false, false] rfl rfl (take_ofW HT_.out HW_.out (by kernel_rfl)) (fun _ _ _ h => h) (Or.inl ⟨by rfl, ?_⟩) hHeld ?_ ?_
           rotate_left
           ·rintro w' ⟨s0, s1, s2, s3, s4, s5, s6, s7, s8⟩
            go_simp
            with_reducible rfl
           rotate_left
           ·simp only [Act.put, List.setIfInBounds_toArray, List.set_cons_zero, List.set_cons_succ, i64_w, i32_w]
            rfl
           refine take_ (i := 17) (N := some 123) (v := ?_) (a' := ?_) #[true, true, true, true, true, true, true, true, true, true, true, true, true, true, true, true, true, true, false, false] rfl rfl (take_ofW HT_.out HW_.out (by kernel_rfl)) (fun _ _ _ h => h) (Or.inl ⟨by rfl, ?_⟩) hHeld ?_ ?_
           rotate_left
           ·rintro w' ⟨s0, s1, s2, s3, s4, s5, s6, s7, s8⟩
            go_simp
            with_reducible rfl
           rotate_left
           ·simp only [Act.put, List.setIfInBounds_toArray, List.set_cons_zero, List.set_cons_succ, i64_w, i32_w]
            rfl
           refine pure_ (i := 18) (N := some 124) (v := ?_) (a' := ?_) #[true, true, true, true, true, true, true, true, true, true, true, true, true, true, true, true, true, true, true, false] rfl rfl (any_of HT_.out (by kernel_rfl)) (fun _ _ _ h => h) (Or.inl ⟨by rfl, ?_⟩) ?_ ?_
           rotate_left
           ·intro w'
            go_simp
            with_reducible rfl
           rotate_left
           ·simp only [Act.put, List.setIfInBounds_toArray, List.set_cons_zero, List.set_cons_succ, i64_w, i32_w]
            rfl
           refine pure_ (i := 19) (N := some 125) (v := ?_) (a' := ?_) #[true, true, true, true, true, true, true, true, true, true, true, true, true, true, true, true, true, true, true, true] rfl rfl (any_of HT_.out (by kernel_rfl)) (fun _ _ _ h => h) (Or.inl ⟨by rfl, ?_⟩) ?_ ?_
           rotate_left
           ·intro w'
            go_simp
            with_reducible rfl
           rotate_left
           ·simp only [Act.put, List.setIfInBounds_toArray, List.set_cons_zero, List.set_cons_succ, i64_w, i32_w]
            rfl
           refine done_ (done_of HT_.out (by kernel_rfl)) ?_
           try go_wp2
           go_ret
           exact ⟨by first | rfl | (simp [errW_none, errW_some] <;> rfl) | (simp [*, errW_none, errW_some] <;> rfl), kB1 HB GE508⟩
          rw [if_pos c66] at H
          have c66b0 : (((rd_T55 t537 x100_3).f0) == (wrap64 (((rd_T55 t529 x100_3).f0) + ((rd_T55 t533 x100_3).f0)))) = true := beq_iff_eq.mpr c66
          have c66b1 : (((rd_T55 t537 x100_3).f0) != (wrap64 (((rd_T55 t529 x100_3).f0) + ((rd_T55 t533 x100_3).f0)))) = false := bne_eq_false_iff_eq.mpr c66
          clear c66
          have H' := Aside0.mk H
          clear H
          try go_wp2
          have n0_ := Aside0.mk (Kd.R_drew HO_12.out)
          have n1_ := Aside0.mk (Kd.R_drew HO_14.out)
          have n2_ := Aside0.mk (Kd.R_drew HO_16.out)
          have n3_ := Aside0.mk (blk_drew BK508.out)
          have n4_ := Aside0.mk (below_drew1 HB.out)
          clear HO_12
          clear HO_14
          clear HO_16
          clear BK508
          clear HB
          have HO_12 := n0_
          have HO_14 := n1_
          have HO_16 := n2_
          have BK508 := n3_
          have HB := n4_
          clear n0_ n1_ n2_ n3_ n4_
          have p541 : 0 ≤ (x100_3 : Int) := tD
          have q541 : x100_3 < (t537.length : Int) := tD
          obtain ⟨ad541, e541, hx541_0, hx541_1, hx541_2⟩ := at_T55 (Kd.R_reads' HO_16.out).2.2 x100_3 p541 q541
          cases e541
          replace p541 := eq_true p541
          replace q541 := eq_true q541
          obtain ⟨Ao68, co68, eo68⟩ := Kd.R_slice HO_12.out
          (first | subst eo68 | (injection eo68 with f1_ f2_ f3_; have f4_ := f1_.symm; have f5_ := f3_.symm; clear f1_ f2_ f3_; subst f4_; subst f5_))
          have p542 : 0 ≤ (x100_3 : Int) := tD
          have q542 : x100_3 < (t529.length : Int) := tD
          obtain ⟨ad542, e542, hx542_0, hx542_1, hx542_2⟩ := at_T55 (Kd.R_reads' HO_12.out).2.2 x100_3 p542 q542
          cases e542
          replace p542 := eq_true p542
          replace q542 := eq_true q542
          obtain ⟨Ao69, co69, eo69⟩ := Kd.R_slice HO_14.out
          (first | subst eo69 | (injection eo69 with f1_ f2_ f3_; have f4_ := f1_.symm; have f5_ := f3_.symm; clear f1_ f2_ f3_; subst f4_; subst f5_))
          have p543 : 0 ≤ (x100_3 : Int) := tD
          have q543 : x100_3 < (t533.length : Int) := tD
          obtain ⟨ad543, e543, hx543_0, hx543_1, hx543_2⟩ := at_T55 (Kd.R_reads' HO_14.out).2.2 x100_3 p543 q543
          cases e543
          replace p543 := eq_true p543
          replace q543 := eq_true q543
          refine start_ (n := 20) (S := fun w' => w'.cell? (ad541.add ((x100_3).toNat * 3)) = some (.int .i64 ((rd_T55 t537 x100_3).f0)) ∧ w'.cell? ⟨(ad541.add ((x100_3).toNat * 3)).block, (ad541.add ((x100_3).toNat * 3)).off + 1, none⟩ = some (.int .i64 ((rd_T55 t537 x100_3).f1)) ∧ w'.cell? ⟨(ad541.add ((x100_3).toNat * 3)).block, (ad541.add ((x100_3).toNat * 3)).off + 2, none⟩ = some (.int .i64 ((rd_T55 t537 x100_3).f2)) ∧ w'.cell? (ad542.add ((x100_3).toNat * 3)) = some (.int .i64 ((rd_T55 t529 x100_3).f0)) ∧ w'.cell? ⟨(ad542.add ((x100_3).toNat * 3)).block, (ad542.add ((x100_3).toNat * 3)).off + 1, none⟩ = some (.int .i64 ((rd_T55 t529 x100_3).f1)) ∧ w'.cell? ⟨(ad542.add ((x100_3).toNat * 3)).block, (ad542.add ((x100_3).toNat * 3)).off + 2, none⟩ = some (.int .i64 ((rd_T55 t529 x100_3).f2)) ∧ w'.cell? (ad543.add ((x100_3).toNat * 3)) = some (.int .i64 ((rd_T55 t533 x100_3).f0)) ∧ w'.cell? ⟨(ad543.add ((x100_3).toNat * 3)).block, (ad543.add ((x100_3).toNat * 3)).off + 1, none⟩ = some (.int .i64 ((rd_T55 t533 x100_3).f1)) ∧ w'.cell? ⟨(ad543.add ((x100_3).toNat * 3)).block, (ad543.add ((x100_3).toNat * 3)).off + 2, none⟩ = some (.int .i64 ((rd_T55 t533 x100_3).f2))) (ds := []) #[false, false, false, false, false, false, false, false, false, false, false, false, false, false, false, false, false, false, false, false] (by kernel_rfl) rfl rfl ⟨hx541_0, hx541_1, hx541_2, hx542_0, hx542_1, hx542_2, hx543_0, hx543_1, hx543_2⟩ (fun hHeld => ?_); refine with_tabW w08_TreeAdds.tab25 w08_TreeAdds.bits25 (fun HT_ HW_ => ?_)
          generalize wr.drew = w67 at HO_12 HO_14 HO_16 BK508 HB hx541_0 hx541_1 hx541_2 hx542_0 hx542_1 hx542_2 hx543_0 hx543_1 hx543_2 hHeld ⊢
          refine pure_ (i := 0) (N := some 106) (v := ?_) (a' := ?_) #[true, false, false, false, false, false, false, false, false, false, false, false, false, false, false, false, false, false, false, false] rfl rfl (any_of HT_.out (by kernel_rfl)) (fun _ _ _ h => h) (Or.inl ⟨by rfl, ?_⟩) ?_ ?_
          rotate_left
          ·intro w'
           go_simp
           with_reducible rfl
          rotate_left
          ·simp only [Act.put, List.setIfInBounds_toArray, List.set_cons_zero, List.set_cons_succ, i64_w, i32_w]
           rfl
          refine pure_ (i := 1) (N := some 107) (v := ?_) (a' := ?_) #[true, true, false, false, false, false, false, false, false, false, false, false, false, false, false, false, false, false, false, false] rfl rfl (any_of HT_.out (by kernel_rfl)) (fun _ _ _ h => h) (Or.inl ⟨by rfl, ?_⟩) ?_ ?_
          rotate_left
          ·intro w'
           go_simp
           with_reducible rfl
          rotate_left
          ·simp only [Act.put, List.setIfInBounds_toArray, List.set_cons_zero, List.set_cons_succ, i64_w, i32_w]
           rfl
          refine pure_ (i := 2) (N := some 108) (v := ?_) (a' := ?_) #[true, true, true, false, false, false, false, false, false, false, false, false, false, false, false, false, false, false, false, false] rfl rfl (any_of HT_.out (by kernel_rfl)) (fun _ _ _ h => h) (Or.inl ⟨by rfl, ?_⟩) ?_ ?_
          rotate_left
          ·intro w'
           go_simp
           with_reducible rfl
          rotate_left
          ·simp only [Act.put, List.setIfInBounds_toArray, List.set_cons_zero, List.set_cons_succ, i64_w, i32_w]
           rfl
          refine pure_ (i := 3) (N := some 109) (v := ?_) (a' := ?_) #[true, true, true, true, false, false, false, false, false, false, false, false, false, false, false, false, false, false, false, false] rfl rfl (any_of HT_.out (by kernel_rfl)) (fun _ _ _ h => h) (Or.inl ⟨by rfl, ?_⟩) ?_ ?_
          rotate_left
          ·intro w'
           go_simp
           with_reducible rfl
          rotate_left
          ·simp only [Act.put, List.setIfInBounds_toArray, List.set_cons_zero, List.set_cons_succ, i64_w, i32_w]
           rfl
          refine pure_ (i := 4) (N := some 110) (v := ?_) (a' := ?_) #[true, true, true, true, true, false, false, false, false, false, false, false, false, false, false, false, false, false, false, false] rfl rfl (any_of HT_.out (by kernel_rfl)) (fun _ _ _ h => h) (Or.inl ⟨by rfl, ?_⟩) ?_ ?_
          rotate_left
          ·intro w'
           go_simp
           with_reducible rfl
          rotate_left
          ·simp only [Act.put, List.setIfInBounds_toArray, List.set_cons_zero, List.set_cons_succ, i64_w, i32_w]
           rfl
          refine pure_ (i := 6) (N := some 112) (v := ?_) (a' := ?_) #[true, true, true, true, true, false, true, false, false, false, false, false, false, false, false, false, false, false, false, false] rfl rfl (any_of HT_.out (by kernel_rfl)) (fun _ _ _ h => h) (Or.inl ⟨by rfl, ?_⟩) ?_ ?_
          rotate_left
          ·intro w'
           go_simp
           with_reducible rfl
          rotate_left
          ·simp only [Act.put, List.setIfInBounds_toArray, List.set_cons_zero, List.set_cons_succ, i64_w, i32_w]
           rfl
          refine pure_ (i := 7) (N := some 113) (v := ?_) (a' := ?_) #[true, true, true, true, true, false, true, true, false, false, false, false, false, false, false, false, false, false, false, false] rfl rfl (any_of HT_.out (by kernel_rfl)) (fun _ _ _ h => h) (Or.inl ⟨by rfl, ?_⟩) ?_ ?_
          rotate_left
          ·intro w'
           go_simp
           with_reducible rfl
          rotate_left
          ·simp only [Act.put, List.setIfInBounds_toArray, List.set_cons_zero, List.set_cons_succ, i64_w, i32_w]
           rfl
          refine pure_ (i := 8) (N := some 114) (v := ?_) (a' := ?_) #[true, true, true, true, true, false, true, true, true, false, false, false, false, false, false, false, false, false, false, false] rfl rfl (any_of HT_.out (by kernel_rfl)) (fun _ _ _ h => h) (Or.inl ⟨by rfl, ?_⟩) ?_ ?_
          rotate_left
          ·intro w'
           go_simp
           with_reducible rfl
          rotate_left
          ·simp only [Act.put, List.setIfInBounds_toArray, List.set_cons_zero, List.set_cons_succ, i64_w, i32_w]
           rfl
          refine pure_ (i := 9) (N := some 115) (v := ?_) (a' := ?_) #[true, true, true, true, true, false, true, true, true, true, false, false, false, false, false, false, false, false, false, false] rfl rfl (any_of HT_.out (by kernel_rfl)) (fun _ _ _ h => h) (Or.inl ⟨by rfl, ?_⟩) ?_ ?_
          rotate_left
          ·intro w'
           go_simp
           with_reducible rfl
          rotate_left
          ·simp only [Act.put, List.setIfInBounds_toArray, List.set_cons_zero, List.set_cons_succ, i64_w, i32_w]
           rfl
          refine pure_ (i := 10) (N := some 116) (v := ?_) (a' := ?_) #[true, true, true, true, true, false, true, true, true, true, true, false, false, false, false, false, false, false, false, false] rfl rfl (any_of HT_.out (by kernel_rfl)) (fun _ _ _ h => h) (Or.inl ⟨by rfl, ?_⟩) ?_ ?_
          rotate_left
          ·intro w'
           go_simp
           with_reducible rfl
          rotate_left
          ·simp only [Act.put, List.setIfInBounds_toArray, List.set_cons_zero, List.set_cons_succ, i64_w, i32_w]
           rfl
          refine pure_ (i := 12) (N := some 118) (v := ?_) (a' := ?_) #[true, true, true, true, true, false, true, true, true, true, true, false, true, false, false, false, false, false, false, false] rfl rfl (any_of HT_.out (by kernel_rfl)) (fun _ _ _ h => h) (Or.inl ⟨by rfl, ?_⟩) ?_ ?_
          rotate_left
          ·intro w'
           go_simp
           with_reducible rfl
          rotate_left
          ·simp only [Act.put, List.setIfInBounds_toArray, List.set_cons_zero, List.set_cons_succ, i64_w, i32_w]
           rfl
          refine pure_ (i := 13) (N := some 119) (v := ?_) (a' := ?_) #[true, true, true, true, true, false, true, true, true, true, true, false, true, true, false, false, false, false, false, false] rfl rfl (any_of HT_.out (by kernel_rfl)) (fun _ _ _ h => h) (Or.inl ⟨by rfl, ?_⟩) ?_ ?_
          rotate_left
          ·intro w'
           go_simp
           with_reducible rfl
          rotate_left
          ·simp only [Act.put, List.setIfInBounds_toArray, List.set_cons_zero, List.set_cons_succ, i64_w, i32_w]
           rfl
          refine pure_ (i := 14) (N := some 120) (v := ?_) (a' := ?_) #[true, true, true, true, true, false, true, true, true, true, true, false, true, true, true, false, false, false, false, false] rfl rfl (any_of HT_.out (by kernel_rfl)) (fun _ _ _ h => h) (Or.inl ⟨by rfl, ?_⟩) ?_ ?_
          rotate_left
          ·intro w'
           go_simp
           with_reducible rfl
          rotate_left
          ·simp only [Act.put, List.setIfInBounds_toArray, List.set_cons_zero, List.set_cons_succ, i64_w, i32_w]
           rfl
          refine pure_ (i := 15) (N := some 121) (v := ?_) (a' := ?_) #[true, true, true, true, true, false, true, true, true, true, true, false, true, true, true, true, false, false, false, false] rfl rfl (any_of HT_.out (by kernel_rfl)) (fun _ _ _ h => h) (Or.inl ⟨by rfl, ?_⟩) ?_ ?_
          rotate_left
          ·intro w'
           go_simp
           with_reducible rfl
          rotate_left
          ·simp only [Act.put, List.setIfInBounds_toArray, List.set_cons_zero, List.set_cons_succ, i64_w, i32_w]
           rfl
          refine pure_ (i := 16) (N := some 122) (v := ?_) (a' := ?_) #[true, true, true, true, true, false, true, true, true, true, true, false, true, true, true, true, true, false, false, false] rfl rfl (any_of HT_.out (by kernel_rfl)) (fun _ _ _ h => h) (Or.inl ⟨by rfl, ?_⟩) ?_ ?_
          rotate_left
          ·intro w'
           go_simp
           with_reducible rfl
          rotate_left
          ·simp only [Act.put, List.setIfInBounds_toArray, List.set_cons_zero, List.set_cons_succ, i64_w, i32_w]
           rfl
          refine take_ (i := 5) (N := some 111) (v := ?_) (a' := ?_) #[true, true, true, true, true, true, true, true, true, true, true, false, true, true, true, true, true, false, false, false] rfl rfl (take_ofW HT_.out HW_.out (by kernel_rfl)) (fun _ _ _ h => h) (Or.inl ⟨by rfl, ?_⟩) hHeld ?_ ?_
          rotate_left
          ·rintro w' ⟨s0, s1, s2, s3, s4, s5, s6, s7, s8⟩
           go_simp
           with_reducible rfl
          rotate_left
          ·simp only [Act.put, List.setIfInBounds_toArray, List.set_cons_zero, List.set_cons_succ, i64_w, i32_w]
           rfl
          refine take_ (i := 11) (N := some 117) (v := ?_) (a' := ?_) #[true, true, true, true, true, true, true, true, true, true, true, true, true, true, true, true, true, false, false, false] rfl rfl (take_ofW HT_.out HW_.out (by kernel_rfl)) (fun _ _ _ h => h) (Or.inl ⟨by rfl, ?_⟩) hHeld ?_ ?_
          rotate_left
          ·rintro w' ⟨s0, s1, s2, s3, s4, s5, s6, s7, s8⟩
           go_simp
           with_reducible rfl
          rotate_left
          ·simp only [Act.put, List.setIfInBounds_toArray, List.set_cons_zero, List.set_cons_succ, i64_w, i32_w]
           rfl
          refine take_ (i := 17) (N := some 123) (v := ?_) (a' := ?_) #[true, true, true, true, true, true, true, true, true, true, true, true, true, true, true, true, true, true, false, false] rfl rfl (take_ofW HT_.out HW_.out (by kernel_rfl)) (fun _ _ _ h => h) (Or.inl ⟨by rfl, ?_⟩) hHeld ?_ ?_
          rotate_left
          ·rintro w' ⟨s0, s1, s2, s3, s4, s5, s6, s7, s8⟩
           go_simp
           with_reducible rfl
          rotate_left
          ·simp only [Act.put, List.setIfInBounds_toArray, List.set_cons_zero, List.set_cons_succ, i64_w, i32_w]
           rfl
          refine pure_ (i := 18) (N := some 124) (v := ?_) (a' := ?_) #[true, true, true, true, true, true, true, true, true, true, true, true, true, true, true, true, true, true, true, false] rfl rfl (any_of HT_.out (by kernel_rfl)) (fun _ _ _ h => h) (Or.inl ⟨by rfl, ?_⟩) ?_ ?_
          rotate_left
          ·intro w'
           go_simp
           with_reducible rfl
          rotate_left
          ·simp only [Act.put, List.setIfInBounds_toArray, List.set_cons_zero, List.set_cons_succ, i64_w, i32_w]
           rfl
          refine pure_ (i := 19) (N := some 125) (v := ?_) (a' := ?_) #[true, true, true, true, true, true, true, true, true, true, true, true, true, true, true, true, true, true, true, true] rfl rfl (any_of HT_.out (by kernel_rfl)) (fun _ _ _ h => h) (Or.inl ⟨by rfl, ?_⟩) ?_ ?_
          rotate_left
          ·intro w'
           go_simp
           with_reducible rfl
          rotate_left
          ·simp only [Act.put, List.setIfInBounds_toArray, List.set_cons_zero, List.set_cons_succ, i64_w, i32_w]
           rfl
          refine done_ (done_of HT_.out (by kernel_rfl)) ?_
          try go_wp2
          go_roundg k4
          case measure => have := HK1.out; have := HJ45.out; have := HK3.out; have := HK4.out; omega
          case rel => exact ⟨(wrap64 (x103_4 + 1)), tQ, H', ⟨by have := HK1.out; have := HJ45.out; have := HK3.out; have := HK4.out; omega⟩, ⟨kR HO_12⟩, ⟨kR HO_14⟩, ⟨kR HO_16⟩, ⟨kK BK508⟩, ⟨kB1 HB GE508⟩⟩
         rw [if_neg c63] at H
         have c63b0 : (x103_4 == 0) = false := beq_eq_false_iff_ne.mpr c63
         have c63b1 : (x103_4 != 0) = true := bne_iff_ne.mpr c63
         by_cases c73 : x103_4 = 1
         ·rw [if_pos c73] at H
          have c73b0 : (x103_4 == 1) = true := beq_iff_eq.mpr c73
          have c73b1 : (x103_4 != 1) = false := bne_eq_false_iff_eq.mpr c73
          have c73b2 : ∀ (a_ : Addr) (W_ : World), (Instr.indexAt 55 (.pointer (some a_)) (.int .i64 x103_4)).run Try.prog W_ = .ok (.pointer (some (a_.add 1))) W_ := fun a_ W_ => ix_arr Try.underlying55 (fun W_ => by go_simp) 1 (by decide) x103_4 c73 a_ W_
          clear c73
          by_cases c74 : x100_3 < (t529.length : Int)
          rotate_left
          ·rw [if_neg c74] at H
           exact absurd H (by simp)
          rw [if_pos c74] at H
          have c74b0 : decide (x100_3 < (t529.length : Int)) = true := decide_eq_true c74
          clear c74
          by_cases c75 : x100_3 < (t533.length : Int)
          rotate_left
          ·rw [if_neg c75] at H
           exact absurd H (by simp)
          rw [if_pos c75] at H
          have c75b0 : decide (x100_3 < (t533.length : Int)) = true := decide_eq_true c75
          clear c75
          by_cases c76 : ((rd_T55 t537 x100_3).f1) = (wrap64 (((rd_T55 t529 x100_3).f1) + ((rd_T55 t533 x100_3).f1)))
          rotate_left
          ·rw [if_neg c76] at H
           have c76b0 : (((rd_T55 t537 x100_3).f1) == (wrap64 (((rd_T55 t529 x100_3).f1) + ((rd_T55 t533 x100_3).f1)))) = false := beq_eq_false_iff_ne.mpr c76
           have c76b1 : (((rd_T55 t537 x100_3).f1) != (wrap64 (((rd_T55 t529 x100_3).f1) + ((rd_T55 t533 x100_3).f1)))) = true := bne_iff_ne.mpr c76
           obtain rfl := Option.some.inj H
           try go_wp2
           have n0_ := Aside0.mk (Kd.R_drew HO_12.out)
           have n1_ := Aside0.mk (Kd.R_drew HO_14.out)
           have n2_ := Aside0.mk (Kd.R_drew HO_16.out)
           have n3_ := Aside0.mk (blk_drew BK508.out)
           have n4_ := Aside0.mk (below_drew1 HB.out)
           clear HO_12
           clear HO_14
           clear HO_16
           clear BK508
           clear HB
           have HO_12 := n0_
           have HO_14 := n1_
           have HO_16 := n2_
           have BK508 := n3_
           have HB := n4_
           clear n0_ n1_ n2_ n3_ n4_
           have p541 : 0 ≤ (x100_3 : Int) := tD
           have q541 : x100_3 < (t537.length : Int) := tD
           obtain ⟨ad541, e541, hx541_0, hx541_1, hx541_2⟩ := at_T55 (Kd.R_reads' HO_16.out).2.2 x100_3 p541 q541
           cases e541
           replace p541 := eq_true p541
           replace q541 := eq_true q541
           obtain ⟨Ao81, co81, eo81⟩ := Kd.R_slice HO_12.out
           (first | subst eo81 | (injection eo81 with f1_ f2_ f3_; have f4_ := f1_.symm; have f5_ := f3_.symm; clear f1_ f2_ f3_; subst f4_; subst f5_))
           have p544 : 0 ≤ (x100_3 : Int) := tD
           have q544 : x100_3 < (t529.length : Int) := tD
           obtain ⟨ad544, e544, hx544_0, hx544_1, hx544_2⟩ := at_T55 (Kd.R_reads' HO_12.out).2.2 x100_3 p544 q544
           cases e544
           replace p544 := eq_true p544
           replace q544 := eq_true q544
           obtain ⟨Ao82, co82, eo82⟩ := Kd.R_slice HO_14.out
           (first | subst eo82 | (injection eo82 with f1_ f2_ f3_; have f4_ := f1_.symm; have f5_ := f3_.symm; clear f1_ f2_ f3_; subst f4_; subst f5_))
           have p545 : 0 ≤ (x100_3 : Int) := tD
           have q545 : x100_3 < (t533.length : Int) := tD
           obtain ⟨ad545, e545, hx545_0, hx545_1, hx545_2⟩ := at_T55 (Kd.R_reads' HO_14.out).2.2 x100_3 p545 q545
           cases e545
           replace p545 := eq_true p545
           replace q545 := eq_true q545
           refine start_ (n := 20) (S := fun w' => w'.cell? (ad541.add ((x100_3).toNat * 3)) = some (.int .i64 ((rd_T55 t537 x100_3).f0)) ∧ w'.cell? ⟨(ad541.add ((x100_3).toNat * 3)).block, (ad541.add ((x100_3).toNat * 3)).off + 1, none⟩ = some (.int .i64 ((rd_T55 t537 x100_3).f1)) ∧ w'.cell? ⟨(ad541.add ((x100_3).toNat * 3)).block, (ad541.add ((x100_3).toNat * 3)).off + 2, none⟩ = some (.int .i64 ((rd_T55 t537 x100_3).f2)) ∧ w'.cell? (ad544.add ((x100_3).toNat * 3)) = some (.int .i64 ((rd_T55 t529 x100_3).f0)) ∧ w'.cell? ⟨(ad544.add ((x100_3).toNat * 3)).block, (ad544.add ((x100_3).toNat * 3)).off + 1, none⟩ = some (.int .i64 ((rd_T55 t529 x100_3).f1)) ∧ w'.cell? ⟨(ad544.add ((x100_3).toNat * 3)).block, (ad544.add ((x100_3).toNat * 3)).off + 2, none⟩ = some (.int .i64 ((rd_T55 t529 x100_3).f2)) ∧ w'.cell? (ad545.add ((x100_3).toNat * 3)) = some (.int .i64 ((rd_T55 t533 x100_3).f0)) ∧ w'.cell? ⟨(ad545.add ((x100_3).toNat * 3)).block, (ad545.add ((x100_3).toNat * 3)).off + 1, none⟩ = some (.int .i64 ((rd_T55 t533 x100_3).f1)) ∧ w'.cell? ⟨(ad545.add ((x100_3).toNat * 3)).block, (ad545.add ((x100_3).toNat * 3)).off + 2, none⟩ = some (.int .i64 ((rd_T55 t533 x100_3).f2))) (ds := []) #[false, false, false, false, false, false, false, false, false, false, false, false, false, false, false, false, false, false, false, false] (by kernel_rfl) rfl rfl ⟨hx541_0, hx541_1, hx541_2, hx544_0, hx544_1, hx544_2, hx545_0, hx545_1, hx545_2⟩ (fun hHeld => ?_); refine with_tabW w08_TreeAdds.tab25 w08_TreeAdds.bits25 (fun HT_ HW_ => ?_)
           generalize wr.drew = w80 at HO_12 HO_14 HO_16 BK508 HB hx541_0 hx541_1 hx541_2 hx544_0 hx544_1 hx544_2 hx545_0 hx545_1 hx545_2 hHeld ⊢
           refine pure_ (i := 0) (N := some 106) (v := ?_) (a' := ?_) #[true, false, false, false, false, false, false, false, false, false, false, false, false, false, false, false, false, false, false, false] rfl rfl (any_of HT_.out (by kernel_rfl)) (fun _ _ _ h => h) (Or.inl ⟨by rfl, ?_⟩) ?_ ?_
           rotate_left
           ·intro w'
            go_simp
            with_reducible rfl
           rotate_left
           ·simp only [Act.put, List.setIfInBounds_toArray, List.set_cons_zero, List.set_cons_succ, i64_w, i32_w]
            rfl
           refine pure_ (i := 1) (N := some 107) (v := ?_) (a' := ?_) #[true, true, false, false, false, false, false, false, false, false, false, false, false, false, false, false, false, false, false, false] rfl rfl (any_of HT_.out (by kernel_rfl)) (fun _ _ _ h => h) (Or.inl ⟨by rfl, ?_⟩) ?_ ?_
           rotate_left
           ·intro w'
            go_simp
            with_reducible rfl
           rotate_left
           ·simp only [Act.put, List.setIfInBounds_toArray, List.set_cons_zero, List.set_cons_succ, i64_w, i32_w]
            rfl
           refine pure_ (i := 2) (N := some 108) (v := ?_) (a' := ?_) #[true, true, true, false, false, false, false, false, false, false, false, false, false, false, false, false, false, false, false, false] rfl rfl (any_of HT_.out (by kernel_rfl)) (fun _ _ _ h => h) (Or.inl ⟨by rfl, ?_⟩) ?_ ?_
           rotate_left
           ·intro w'
            go_simp
            with_reducible rfl
           rotate_left
           ·simp only [Act.put, List.setIfInBounds_toArray, List.set_cons_zero, List.set_cons_succ, i64_w, i32_w]
            rfl
           refine pure_ (i := 3) (N := some 109) (v := ?_) (a' := ?_) #[true, true, true, true, false, false, false, false, false, false, false, false, false, false, false, false, false, false, false, false] rfl rfl (any_of HT_.out (by kernel_rfl)) (fun _ _ _ h => h) (Or.inl ⟨by rfl, ?_⟩) ?_ ?_
           rotate_left
           ·intro w'
            go_simp
            with_reducible rfl
           rotate_left
           ·simp only [Act.put, List.setIfInBounds_toArray, List.set_cons_zero, List.set_cons_succ, i64_w, i32_w]
            rfl
           refine pure_ (i := 4) (N := some 110) (v := ?_) (a' := ?_) #[true, true, true, true, true, false, false, false, false, false, false, false, false, false, false, false, false, false, false, false] rfl rfl (any_of HT_.out (by kernel_rfl)) (fun _ _ _ h => h) (Or.inl ⟨by rfl, ?_⟩) ?_ ?_
           rotate_left
           ·intro w'
            go_simp
            with_reducible rfl
           rotate_left
           ·simp only [Act.put, List.setIfInBounds_toArray, List.set_cons_zero, List.set_cons_succ, i64_w, i32_w]
            rfl
           refine pure_ (i := 6) (N := some 112) (v := ?_) (a' := ?_) #[true, true, true, true, true, false, true, false, false, false, false, false, false, false, false, false, false, false, false, false] rfl rfl (any_of HT_.out (by kernel_rfl)) (fun _ _ _ h => h) (Or.inl ⟨by rfl, ?_⟩) ?_ ?_
           rotate_left
           ·intro w'
            go_simp
            with_reducible rfl
           rotate_left
           ·simp only [Act.put, List.setIfInBounds_toArray, List.set_cons_zero, List.set_cons_succ, i64_w, i32_w]
            rfl
           refine pure_ (i := 7) (N := some 113) (v := ?_) (a' := ?_) #[true, true, true, true, true, false, true, true, false, false, false, false, false, false, false, false, false, false, false, false] rfl rfl (any_of HT_.out (by kernel_rfl)) (fun _ _ _ h => h) (Or.inl ⟨by rfl, ?_⟩) ?_ ?_
           rotate_left
           ·intro w'
            go_simp
            with_reducible rfl
           rotate_left
           ·simp only [Act.put, List.setIfInBounds_toArray, List.set_cons_zero, List.set_cons_succ, i64_w, i32_w]
            rfl
           refine pure_ (i := 8) (N := some 114) (v := ?_) (a' := ?_) #[true, true, true, true, true, false, true, true, true, false, false, false, false, false, false, false, false, false, false, false] rfl rfl (any_of HT_.out (by kernel_rfl)) (fun _ _ _ h => h) (Or.inl ⟨by rfl, ?_⟩) ?_ ?_
           rotate_left
           ·intro w'
            go_simp
            with_reducible rfl
           rotate_left
           ·simp only [Act.put, List.setIfInBounds_toArray, List.set_cons_zero, List.set_cons_succ, i64_w, i32_w]
            rfl
           refine pure_ (i := 9) (N := some 115) (v := ?_) (a' := ?_) #[true, true, true, true, true, false, true, true, true, true, false, false, false, false, false, false, false, false, false, false] rfl rfl (any_of HT_.out (by kernel_rfl)) (fun _ _ _ h => h) (Or.inl ⟨by rfl, ?_⟩) ?_ ?_
           rotate_left
           ·intro w'
            go_simp
            with_reducible rfl
           rotate_left
           ·simp only [Act.put, List.setIfInBounds_toArray, List.set_cons_zero, List.set_cons_succ, i64_w, i32_w]
            rfl
           refine pure_ (i := 10) (N := some 116) (v := ?_) (a' := ?_) #[true, true, true, true, true, false, true, true, true, true, true, false, false, false, false, false, false, false, false, false] rfl rfl (any_of HT_.out (by kernel_rfl)) (fun _ _ _ h => h) (Or.inl ⟨by rfl, ?_⟩) ?_ ?_
           rotate_left
           ·intro w'
            go_simp
            with_reducible rfl
           rotate_left
           ·simp only [Act.put, List.setIfInBounds_toArray, List.set_cons_zero, List.set_cons_succ, i64_w, i32_w]
            rfl
           refine pure_ (i := 12) (N := some 118) (v := ?_) (a' := ?_) #[true, true, true, true, true, false, true, true, true, true, true, false, true, false, false, false, false, false, false, false] rfl rfl (any_of HT_.out (by kernel_rfl)) (fun _ _ _ h => h) (Or.inl ⟨by rfl, ?_⟩) ?_ ?_
           rotate_left
           ·intro w'
            go_simp
            with_reducible rfl
           rotate_left
           ·simp only [Act.put, List.setIfInBounds_toArray, List.set_cons_zero, List.set_cons_succ, i64_w, i32_w]
            rfl
           refine pure_ (i := 13) (N := some 119) (v := ?_) (a' := ?_) #[true, true, true, true, true, false, true, true, true, true, true, false, true, true, false, false, false, false, false, false] rfl rfl (any_of HT_.out (by kernel_rfl)) (fun _ _ _ h => h) (Or.inl ⟨by rfl, ?_⟩) ?_ ?_
           rotate_left
           ·intro w'
            go_simp
            with_reducible rfl
           rotate_left
           ·simp only [Act.put, List.setIfInBounds_toArray, List.set_cons_zero, List.set_cons_succ, i64_w, i32_w]
            rfl
           refine pure_ (i := 14) (N := some 120) (v := ?_) (a' := ?_) #[true, true, true, true, true, false, true, true, true, true, true, false, true, true, true, false, false, false, false, false] rfl rfl (any_of HT_.out (by kernel_rfl)) (fun _ _ _ h => h) (Or.inl ⟨by rfl, ?_⟩) ?_ ?_
           rotate_left
           ·intro w'
            go_simp
            with_reducible rfl
           rotate_left
           ·simp only [Act.put, List.setIfInBounds_toArray, List.set_cons_zero, List.set_cons_succ, i64_w, i32_w]
            rfl
           refine pure_ (i := 15) (N := some 121) (v := ?_) (a' := ?_) #[true, true, true, true, true, false, true, true, true, true, true, false, true, true, true, true, false, false, false, false] rfl rfl (any_of HT_.out (by kernel_rfl)) (fun _ _ _ h => h) (Or.inl ⟨by rfl, ?_⟩) ?_ ?_
           rotate_left
           ·intro w'
            go_simp
            with_reducible rfl
           rotate_left
           ·simp only [Act.put, List.setIfInBounds_toArray, List.set_cons_zero, List.set_cons_succ, i64_w, i32_w]
            rfl
           refine pure_ (i := 16) (N := some 122) (v := ?_) (a' := ?_) #[true, true, true, true, true, false, true, true, true, true, true, false, true, true, true, true, true, false, false, false] rfl rfl (any_of HT_.out (by kernel_rfl)) (fun _ _ _ h => h) (Or.inl ⟨by rfl, ?_⟩) ?_ ?_
           rotate_left
           ·intro w'
            go_simp
            with_reducible rfl
           rotate_left
           ·simp only [Act.put, List.setIfInBounds_toArray, List.set_cons_zero, List.set_cons_succ, i64_w, i32_w]
            rfl
           refine take_ (i := 5) (N := some 111) (v := ?_) (a' := ?_) #[true, true, true, true, true, true, true, true, true, true, true, false, true, true, true, true, true, false, false, false] rfl rfl (take_ofW HT_.out HW_.out (by kernel_rfl)) (fun _ _ _ h => h) (Or.inl ⟨by rfl, ?_⟩) hHeld ?_ ?_
           rotate_left
           ·rintro w' ⟨s0, s1, s2, s3, s4, s5, s6, s7, s8⟩
            go_simp
            with_reducible rfl
           rotate_left
           ·simp only [Act.put, List.setIfInBounds_toArray, List.set_cons_zero, List.set_cons_succ, i64_w, i32_w]
            rfl
           refine take_ (i := 11) (N := some 117) (v := ?_) (a' := ?_) #[true, true, true, true, true, true, true, true, true, true, true, true, true, true, true, true, true, false, false, false] rfl rfl (take_ofW HT_.out HW_.out (by kernel_rfl)) (fun _ _ _ h => h) (Or.inl ⟨by rfl, ?_⟩) hHeld ?_ ?_
           rotate_left
           ·rintro w' ⟨s0, s1, s2, s3, s4, s5, s6, s7, s8⟩
            go_simp
            with_reducible rfl
           rotate_left
           ·simp only [Act.put, List.setIfInBounds_toArray, List.set_cons_zero, List.set_cons_succ, i64_w, i32_w]
            rfl
           refine take_ (i := 17) (N := some 123) (v := ?_) (a' := ?_) #[true, true, true, true, true, true, true, true, true, true, true, true, true, true, true, true, true, true, false, false] rfl rfl (take_ofW HT_.out HW_.out (by kernel_rfl)) (fun _ _ _ h => h) (Or.inl ⟨by rfl, ?_⟩) hHeld ?_ ?_
           rotate_left
           ·rintro w' ⟨s0, s1, s2, s3, s4, s5, s6, s7, s8⟩
            go_simp
            with_reducible rfl
           rotate_left
           ·simp only [Act.put, List.setIfInBounds_toArray, List.set_cons_zero, List.set_cons_succ, i64_w, i32_w]
            rfl
           refine pure_ (i := 18) (N := some 124) (v := ?_) (a' := ?_) #[true, true, true, true, true, true, true, true, true, true, true, true, true, true, true, true, true, true, true, false] rfl rfl (any_of HT_.out (by kernel_rfl)) (fun _ _ _ h => h) (Or.inl ⟨by rfl, ?_⟩) ?_ ?_
           rotate_left
           ·intro w'
            go_simp
            with_reducible rfl
           rotate_left
           ·simp only [Act.put, List.setIfInBounds_toArray, List.set_cons_zero, List.set_cons_succ, i64_w, i32_w]
            rfl
           refine pure_ (i := 19) (N := some 125) (v := ?_) (a' := ?_) #[true, true, true, true, true, true, true, true, true, true, true, true, true, true, true, true, true, true, true, true] rfl rfl (any_of HT_.out (by kernel_rfl)) (fun _ _ _ h => h) (Or.inl ⟨by rfl, ?_⟩) ?_ ?_
           rotate_left
           ·intro w'
            go_simp
            with_reducible rfl
           rotate_left
           ·simp only [Act.put, List.setIfInBounds_toArray, List.set_cons_zero, List.set_cons_succ, i64_w, i32_w]
            rfl
           refine done_ (done_of HT_.out (by kernel_rfl)) ?_
           try go_wp2
           go_ret
           exact ⟨by first | rfl | (simp [errW_none, errW_some] <;> rfl) | (simp [*, errW_none, errW_some] <;> rfl), kB1 HB GE508⟩
          rw [if_pos c76] at H
          have c76b0 : (((rd_T55 t537 x100_3).f1) == (wrap64 (((rd_T55 t529 x100_3).f1) + ((rd_T55 t533 x100_3).f1)))) = true := beq_iff_eq.mpr c76
          have c76b1 : (((rd_T55 t537 x100_3).f1) != (wrap64 (((rd_T55 t529 x100_3).f1) + ((rd_T55 t533 x100_3).f1)))) = false := bne_eq_false_iff_eq.mpr c76
          clear c76
          have H' := Aside0.mk H
          clear H
          try go_wp2
          have n0_ := Aside0.mk (Kd.R_drew HO_12.out)
          have n1_ := Aside0.mk (Kd.R_drew HO_14.out)
          have n2_ := Aside0.mk (Kd.R_drew HO_16.out)
          have n3_ := Aside0.mk (blk_drew BK508.out)
          have n4_ := Aside0.mk (below_drew1 HB.out)
          clear HO_12
          clear HO_14
          clear HO_16
          clear BK508
          clear HB
          have HO_12 := n0_
          have HO_14 := n1_
          have HO_16 := n2_
          have BK508 := n3_
          have HB := n4_
          clear n0_ n1_ n2_ n3_ n4_
          have p541 : 0 ≤ (x100_3 : Int) := tD
          have q541 : x100_3 < (t537.length : Int) := tD
          obtain ⟨ad541, e541, hx541_0, hx541_1, hx541_2⟩ := at_T55 (Kd.R_reads' HO_16.out).2.2 x100_3 p541 q541
          cases e541
          replace p541 := eq_true p541
          replace q541 := eq_true q541
          obtain ⟨Ao78, co78, eo78⟩ := Kd.R_slice HO_12.out
          (first | subst eo78 | (injection eo78 with f1_ f2_ f3_; have f4_ := f1_.symm; have f5_ := f3_.symm; clear f1_ f2_ f3_; subst f4_; subst f5_))
          have p544 : 0 ≤ (x100_3 : Int) := tD
          have q544 : x100_3 < (t529.length : Int) := tD
          obtain ⟨ad544, e544, hx544_0, hx544_1, hx544_2⟩ := at_T55 (Kd.R_reads' HO_12.out).2.2 x100_3 p544 q544
          cases e544
          replace p544 := eq_true p544
          replace q544 := eq_true q544
          obtain ⟨Ao79, co79, eo79⟩ := Kd.R_slice HO_14.out
          (first | subst eo79 | (injection eo79 with f1_ f2_ f3_; have f4_ := f1_.symm; have f5_ := f3_.symm; clear f1_ f2_ f3_; subst f4_; subst f5_))
          have p545 : 0 ≤ (x100_3 : Int) := tD
          have q545 : x100_3 < (t533.length : Int) := tD
          obtain ⟨ad545, e545, hx545_0, hx545_1, hx545_2⟩ := at_T55 (Kd.R_reads' HO_14.out).2.2 x100_3 p545 q545
          cases e545
          replace p545 := eq_true p545
          replace q545 := eq_true q545
          refine start_ (n := 20) (S := fun w' => w'.cell? (ad541.add ((x100_3).toNat * 3)) = some (.int .i64 ((rd_T55 t537 x100_3).f0)) ∧ w'.cell? ⟨(ad541.add ((x100_3).toNat * 3)).block, (ad541.add ((x100_3).toNat * 3)).off + 1, none⟩ = some (.int .i64 ((rd_T55 t537 x100_3).f1)) ∧ w'.cell? ⟨(ad541.add ((x100_3).toNat * 3)).block, (ad541.add ((x100_3).toNat * 3)).off + 2, none⟩ = some (.int .i64 ((rd_T55 t537 x100_3).f2)) ∧ w'.cell? (ad544.add ((x100_3).toNat * 3)) = some (.int .i64 ((rd_T55 t529 x100_3).f0)) ∧ w'.cell? ⟨(ad544.add ((x100_3).toNat * 3)).block, (ad544.add ((x100_3).toNat * 3)).off + 1, none⟩ = some (.int .i64 ((rd_T55 t529 x100_3).f1)) ∧ w'.cell? ⟨(ad544.add ((x100_3).toNat * 3)).block, (ad544.add ((x100_3).toNat * 3)).off + 2, none⟩ = some (.int .i64 ((rd_T55 t529 x100_3).f2)) ∧ w'.cell? (ad545.add ((x100_3).toNat * 3)) = some (.int .i64 ((rd_T55 t533 x100_3).f0)) ∧ w'.cell? ⟨(ad545.add ((x100_3).toNat * 3)).block, (ad545.add ((x100_3).toNat * 3)).off + 1, none⟩ = some (.int .i64 ((rd_T55 t533 x100_3).f1)) ∧ w'.cell? ⟨(ad545.add ((x100_3).toNat * 3)).block, (ad545.add ((x100_3).toNat * 3)).off + 2, none⟩ = some (.int .i64 ((rd_T55 t533 x100_3).f2))) (ds := []) #[false, false, false, false, false, false, false, false, false, false, false, false, false, false, false, false, false, false, false, false] (by kernel_rfl) rfl rfl ⟨hx541_0, hx541_1, hx541_2, hx544_0, hx544_1, hx544_2, hx545_0, hx545_1, hx545_2⟩ (fun hHeld => ?_); refine with_tabW w08_TreeAdds.tab25 w08_TreeAdds.bits25 (fun HT_ HW_ => ?_)
          generalize wr.drew = w77 at HO_12 HO_14 HO_16 BK508 HB hx541_0 hx541_1 hx541_2 hx544_0 hx544_1 hx544_2 hx545_0 hx545_1 hx545_2 hHeld ⊢
          refine pure_ (i := 0) (N := some 106) (v := ?_) (a' := ?_) #[true, false, false, false, false, false, false, false, false, false, false, false, false, false, false, false, false, false, false, false] rfl rfl (any_of HT_.out (by kernel_rfl)) (fun _ _ _ h => h) (Or.inl ⟨by rfl, ?_⟩) ?_ ?_
          rotate_left
          ·intro w'
           go_simp
           with_reducible rfl
          rotate_left
          ·simp only [Act.put, List.setIfInBounds_toArray, List.set_cons_zero, List.set_cons_succ, i64_w, i32_w]
           rfl
          refine pure_ (i := 1) (N := some 107) (v := ?_) (a' := ?_) #[true, true, false, false, false, false, false, false, false, false, false, false, false, false, false, false, false, false, false, false] rfl rfl (any_of HT_.out (by kernel_rfl)) (fun _ _ _ h => h) (Or.inl ⟨by rfl, ?_⟩) ?_ ?_
          rotate_left
          ·intro w'
           go_simp
           with_reducible rfl
          rotate_left
          ·simp only [Act.put, List.setIfInBounds_toArray, List.set_cons_zero, List.set_cons_succ, i64_w, i32_w]
           rfl
          refine pure_ (i := 2) (N := some 108) (v := ?_) (a' := ?_) #[true, true, true, false, false, false, false, false, false, false, false, false, false, false, false, false, false, false, false, false] rfl rfl (any_of HT_.out (by kernel_rfl)) (fun _ _ _ h => h) (Or.inl ⟨by rfl, ?_⟩) ?_ ?_
          rotate_left
          ·intro w'
           go_simp
           with_reducible rfl
          rotate_left
          ·simp only [Act.put, List.setIfInBounds_toArray, List.set_cons_zero, List.set_cons_succ, i64_w, i32_w]
           rfl
          refine pure_ (i := 3) (N := some 109) (v := ?_) (a' := ?_) #[true, true, true, true, false, false, false, false, false, false, false, false, false, false, false, false, false, false, false, false] rfl rfl (any_of HT_.out (by kernel_rfl)) (fun _ _ _ h => h) (Or.inl ⟨by rfl, ?_⟩) ?_ ?_
          rotate_left
          ·intro w'
           go_simp
           with_reducible rfl
          rotate_left
          ·simp only [Act.put, List.setIfInBounds_toArray, List.set_cons_zero, List.set_cons_succ, i64_w, i32_w]
           rfl
          refine pure_ (i := 4) (N := some 110) (v := ?_) (a' := ?_) #[true, true, true, true, true, false, false, false, false, false, false, false, false, false, false, false, false, false, false, false] rfl rfl (any_of HT_.out (by kernel_rfl)) (fun _ _ _ h => h) (Or.inl ⟨by rfl, ?_⟩) ?_ ?_
          rotate_left
          ·intro w'
           go_simp
           with_reducible rfl
          rotate_left
          ·simp only [Act.put, List.setIfInBounds_toArray, List.set_cons_zero, List.set_cons_succ, i64_w, i32_w]
           rfl
          refine pure_ (i := 6) (N := some 112) (v := ?_) (a' := ?_) #[true, true, true, true, true, false, true, false, false, false, false, false, false, false, false, false, false, false, false, false] rfl rfl (any_of HT_.out (by kernel_rfl)) (fun _ _ _ h => h) (Or.inl ⟨by rfl, ?_⟩) ?_ ?_
          rotate_left
          ·intro w'
           go_simp
           with_reducible rfl
          rotate_left
          ·simp only [Act.put, List.setIfInBounds_toArray, List.set_cons_zero, List.set_cons_succ, i64_w, i32_w]
           rfl
          refine pure_ (i := 7) (N := some 113) (v := ?_) (a' := ?_) #[true, true, true, true, true, false, true, true, false, false, false, false, false, false, false, false, false, false, false, false] rfl rfl (any_of HT_.out (by kernel_rfl)) (fun _ _ _ h => h) (Or.inl ⟨by rfl, ?_⟩) ?_ ?_
          rotate_left
          ·intro w'
           go_simp
           with_reducible rfl
          rotate_left
          ·simp only [Act.put, List.setIfInBounds_toArray, List.set_cons_zero, List.set_cons_succ, i64_w, i32_w]
           rfl
          refine pure_ (i := 8) (N := some 114) (v := ?_) (a' := ?_) #[true, true, true, true, true, false, true, true, true, false, false, false, false, false, false, false, false, false, false, false] rfl rfl (any_of HT_.out (by kernel_rfl)) (fun _ _ _ h => h) (Or.inl ⟨by rfl, ?_⟩) ?_ ?_
          rotate_left
          ·intro w'
           go_simp
           with_reducible rfl
          rotate_left
          ·simp only [Act.put, List.setIfInBounds_toArray, List.set_cons_zero, List.set_cons_succ, i64_w, i32_w]
           rfl
          refine pure_ (i := 9) (N := some 115) (v := ?_) (a' := ?_) #[true, true, true, true, true, false, true, true, true, true, false, false, false, false, false, false, false, false, false, false] rfl rfl (any_of HT_.out (by kernel_rfl)) (fun _ _ _ h => h) (Or.inl ⟨by rfl, ?_⟩) ?_ ?_
          rotate_left
          ·intro w'
           go_simp
           with_reducible rfl
          rotate_left
          ·simp only [Act.put, List.setIfInBounds_toArray, List.set_cons_zero, List.set_cons_succ, i64_w, i32_w]
           rfl
          refine pure_ (i := 10) (N := some 116) (v := ?_) (a' := ?_) #[true, true, true, true, true, false, true, true, true, true, true, false, false, false, false, false, false, false, false, false] rfl rfl (any_of HT_.out (by kernel_rfl)) (fun _ _ _ h => h) (Or.inl ⟨by rfl, ?_⟩) ?_ ?_
          rotate_left
          ·intro w'
           go_simp
           with_reducible rfl
          rotate_left
          ·simp only [Act.put, List.setIfInBounds_toArray, List.set_cons_zero, List.set_cons_succ, i64_w, i32_w]
           rfl
          refine pure_ (i := 12) (N := some 118) (v := ?_) (a' := ?_) #[true, true, true, true, true, false, true, true, true, true, true, false, true, false, false, false, false, false, false, false] rfl rfl (any_of HT_.out (by kernel_rfl)) (fun _ _ _ h => h) (Or.inl ⟨by rfl, ?_⟩) ?_ ?_
          rotate_left
          ·intro w'
           go_simp
           with_reducible rfl
          rotate_left
          ·simp only [Act.put, List.setIfInBounds_toArray, List.set_cons_zero, List.set_cons_succ, i64_w, i32_w]
           rfl
          refine pure_ (i := 13) (N := some 119) (v := ?_) (a' := ?_) #[true, true, true, true, true, false, true, true, true, true, true, false, true, true, false, false, false, false, false, false] rfl rfl (any_of HT_.out (by kernel_rfl)) (fun _ _ _ h => h) (Or.inl ⟨by rfl, ?_⟩) ?_ ?_
          rotate_left
          ·intro w'
           go_simp
           with_reducible rfl
          rotate_left
          ·simp only [Act.put, List.setIfInBounds_toArray, List.set_cons_zero, List.set_cons_succ, i64_w, i32_w]
           rfl
          refine pure_ (i := 14) (N := some 120) (v := ?_) (a' := ?_) #[true, true, true, true, true, false, true, true, true, true, true, false, true, true, true, false, false, false, false, false] rfl rfl (any_of HT_.out (by kernel_rfl)) (fun _ _ _ h => h) (Or.inl ⟨by rfl, ?_⟩) ?_ ?_
          rotate_left
          ·intro w'
           go_simp
           with_reducible rfl
          rotate_left
          ·simp only [Act.put, List.setIfInBounds_toArray, List.set_cons_zero, List.set_cons_succ, i64_w, i32_w]
           rfl
          refine pure_ (i := 15) (N := some 121) (v := ?_) (a' := ?_) #[true, true, true, true, true, false, true, true, true, true, true, false, true, true, true, true, false, false, false, false] rfl rfl (any_of HT_.out (by kernel_rfl)) (fun _ _ _ h => h) (Or.inl ⟨by rfl, ?_⟩) ?_ ?_
          rotate_left
          ·intro w'
           go_simp
           with_reducible rfl
          rotate_left
          ·simp only [Act.put, List.setIfInBounds_toArray, List.set_cons_zero, List.set_cons_succ, i64_w, i32_w]
           rfl
          refine pure_ (i := 16) (N := some 122) (v := ?_) (a' := ?_) #[true, true, true, true, true, false, true, true, true, true, true, false, true, true, true, true, true, false, false, false] rfl rfl (any_of HT_.out (by kernel_rfl)) (fun _ _ _ h => h) (Or.inl ⟨by rfl, ?_⟩) ?_ ?_
          rotate_left
          ·intro w'
           go_simp
           with_reducible rfl
          rotate_left
          ·simp only [Act.put, List.setIfInBounds_toArray, List.set_cons_zero, List.set_cons_succ, i64_w, i32_w]
           rfl
          refine take_ (i := 5) (N := some 111) (v := ?_) (a' := ?_) #[true, true, true, true, true, true, true, true, true, true, true, false, true, true, true, true, true, false, false, false] rfl rfl (take_ofW HT_.out HW_.out (by kernel_rfl)) (fun _ _ _ h => h) (Or.inl ⟨by rfl, ?_⟩) hHeld ?_ ?_
          rotate_left
          ·rintro w' ⟨s0, s1, s2, s3, s4, s5, s6, s7, s8⟩
           go_simp
           with_reducible rfl
          rotate_left
          ·simp only [Act.put, List.setIfInBounds_toArray, List.set_cons_zero, List.set_cons_succ, i64_w, i32_w]
           rfl
          refine take_ (i := 11) (N := some 117) (v := ?_) (a' := ?_) #[true, true, true, true, true, true, true, true, true, true, true, true, true, true, true, true, true, false, false, false] rfl rfl (take_ofW HT_.out HW_.out (by kernel_rfl)) (fun _ _ _ h => h) (Or.inl ⟨by rfl, ?_⟩) hHeld ?_ ?_
          rotate_left
          ·rintro w' ⟨s0, s1, s2, s3, s4, s5, s6, s7, s8⟩
           go_simp
           with_reducible rfl
          rotate_left
          ·simp only [Act.put, List.setIfInBounds_toArray, List.set_cons_zero, List.set_cons_succ, i64_w, i32_w]
           rfl
          refine take_ (i := 17) (N := some 123) (v := ?_) (a' := ?_) #[true, true, true, true, true, true, true, true, true, true, true, true, true, true, true, true, true, true, false, false] rfl rfl (take_ofW HT_.out HW_.out (by kernel_rfl)) (fun _ _ _ h => h) (Or.inl ⟨by rfl, ?_⟩) hHeld ?_ ?_
          rotate_left
          ·rintro w' ⟨s0, s1, s2, s3, s4, s5, s6, s7, s8⟩
           go_simp
           with_reducible rfl
          rotate_left
          ·simp only [Act.put, List.setIfInBounds_toArray, List.set_cons_zero, List.set_cons_succ, i64_w, i32_w]
           rfl
          refine pure_ (i := 18) (N := some 124) (v := ?_) (a' := ?_) #[true, true, true, true, true, true, true, true, true, true, true, true, true, true, true, true, true, true, true, false] rfl rfl (any_of HT_.out (by kernel_rfl)) (fun _ _ _ h => h) (Or.inl ⟨by rfl, ?_⟩) ?_ ?_
          rotate_left
          ·intro w'
           go_simp
           with_reducible rfl
          rotate_left
          ·simp only [Act.put, List.setIfInBounds_toArray, List.set_cons_zero, List.set_cons_succ, i64_w, i32_w]
           rfl
          refine pure_ (i := 19) (N := some 125) (v := ?_) (a' := ?_) #[true, true, true, true, true, true, true, true, true, true, true, true, true, true, true, true, true, true, true, true] rfl rfl (any_of HT_.out (by kernel_rfl)) (fun _ _ _ h => h) (Or.inl ⟨by rfl, ?_⟩) ?_ ?_
          rotate_left
          ·intro w'
           go_simp
           with_reducible rfl
          rotate_left
          ·simp only [Act.put, List.setIfInBounds_toArray, List.set_cons_zero, List.set_cons_succ, i64_w, i32_w]
           rfl
          refine done_ (done_of HT_.out (by kernel_rfl)) ?_
          try go_wp2
          go_roundg k4
          case measure => have := HK1.out; have := HJ45.out; have := HK3.out; have := HK4.out; omega
          case rel => exact ⟨(wrap64 (x103_4 + 1)), tQ, H', ⟨by have := HK1.out; have := HJ45.out; have := HK3.out; have := HK4.out; omega⟩, ⟨kR HO_12⟩, ⟨kR HO_14⟩, ⟨kR HO_16⟩, ⟨kK BK508⟩, ⟨kB1 HB GE508⟩⟩
         rw [if_neg c73] at H
         have c73b0 : (x103_4 == 1) = false := beq_eq_false_iff_ne.mpr c73
         have c73b1 : (x103_4 != 1) = true := bne_iff_ne.mpr c73
         by_cases c83 : x103_4 = 2
         rotate_left
         ·rw [if_neg c83] at H
          exact absurd H (by simp)
         rw [if_pos c83] at H
         have c83b0 : (x103_4 == 2) = true := beq_iff_eq.mpr c83
         have c83b1 : (x103_4 != 2) = false := bne_eq_false_iff_eq.mpr c83
         have c83b2 : ∀ (a_ : Addr) (W_ : World), (Instr.indexAt 55 (.pointer (some a_)) (.int .i64 x103_4)).run Try.prog W_ = .ok (.pointer (some (a_.add 2))) W_ := fun a_ W_ => ix_arr Try.underlying55 (fun W_ => by go_simp) 2 (by decide) x103_4 c83 a_ W_
         clear c83
         by_cases c84 : x100_3 < (t529.length : Int)
         rotate_left
         ·rw [if_neg c84] at H
          exact absurd H (by simp)
         rw [if_pos c84] at H
         have c84b0 : decide (x100_3 < (t529.length : Int)) = true := decide_eq_true c84
         clear c84
         by_cases c85 : x100_3 < (t533.length : Int)
         rotate_left
         ·rw [if_neg c85] at H
          exact absurd H (by simp)
         rw [if_pos c85] at H
         have c85b0 : decide (x100_3 < (t533.length : Int)) = true := decide_eq_true c85
         clear c85
         by_cases c86 : ((rd_T55 t537 x100_3).f2) = (wrap64 (((rd_T55 t529 x100_3).f2) + ((rd_T55 t533 x100_3).f2)))
         rotate_left
         ·rw [if_neg c86] at H
          have c86b0 : (((rd_T55 t537 x100_3).f2) == (wrap64 (((rd_T55 t529 x100_3).f2) + ((rd_T55 t533 x100_3).f2)))) = false := beq_eq_false_iff_ne.mpr c86
          have c86b1 : (((rd_T55 t537 x100_3).f2) != (wrap64 (((rd_T55 t529 x100_3).f2) + ((rd_T55 t533 x100_3).f2)))) = true := bne_iff_ne.mpr c86
          obtain rfl := Option.some.inj H
          try go_wp2
          have n0_ := Aside0.mk (Kd.R_drew HO_12.out)
          have n1_ := Aside0.mk (Kd.R_drew HO_14.out)
          have n2_ := Aside0.mk (Kd.R_drew HO_16.out)
          have n3_ := Aside0.mk (blk_drew BK508.out)
          have n4_ := Aside0.mk (below_drew1 HB.out)
          clear HO_12
          clear HO_14
          clear HO_16
          clear BK508
          clear HB
          have HO_12 := n0_
          have HO_14 := n1_
          have HO_16 := n2_
          have BK508 := n3_
          have HB := n4_
          clear n0_ n1_ n2_ n3_ n4_
          have p541 : 0 ≤ (x100_3 : Int) := tD
          have q541 : x100_3 < (t537.length : Int) := tD
          obtain ⟨ad541, e541, hx541_0, hx541_1, hx541_2⟩ := at_T55 (Kd.R_reads' HO_16.out).2.2 x100_3 p541 q541
          cases e541
          replace p541 := eq_true p541
          replace q541 := eq_true q541
          obtain ⟨Ao91, co91, eo91⟩ := Kd.R_slice HO_12.out
          (first | subst eo91 | (injection eo91 with f1_ f2_ f3_; have f4_ := f1_.symm; have f5_ := f3_.symm; clear f1_ f2_ f3_; subst f4_; subst f5_))
          have p546 : 0 ≤ (x100_3 : Int) := tD
          have q546 : x100_3 < (t529.length : Int) := tD
          obtain ⟨ad546, e546, hx546_0, hx546_1, hx546_2⟩ := at_T55 (Kd.R_reads' HO_12.out).2.2 x100_3 p546 q546
          cases e546
          replace p546 := eq_true p546
          replace q546 := eq_true q546
          obtain ⟨Ao92, co92, eo92⟩ := Kd.R_slice HO_14.out
          (first | subst eo92 | (injection eo92 with f1_ f2_ f3_; have f4_ := f1_.symm; have f5_ := f3_.symm; clear f1_ f2_ f3_; subst f4_; subst f5_))
          have p547 : 0 ≤ (x100_3 : Int) := tD
          have q547 : x100_3 < (t533.length : Int) := tD
          obtain ⟨ad547, e547, hx547_0, hx547_1, hx547_2⟩ := at_T55 (Kd.R_reads' HO_14.out).2.2 x100_3 p547 q547
          cases e547
          replace p547 := eq_true p547
          replace q547 := eq_true q547
          refine start_ (n := 20) (S := fun w' => w'.cell? (ad541.add ((x100_3).toNat * 3)) = some (.int .i64 ((rd_T55 t537 x100_3).f0)) ∧ w'.cell? ⟨(ad541.add ((x100_3).toNat * 3)).block, (ad541.add ((x100_3).toNat * 3)).off + 1, none⟩ = some (.int .i64 ((rd_T55 t537 x100_3).f1)) ∧ w'.cell? ⟨(ad541.add ((x100_3).toNat * 3)).block, (ad541.add ((x100_3).toNat * 3)).off + 2, none⟩ = some (.int .i64 ((rd_T55 t537 x100_3).f2)) ∧ w'.cell? (ad546.add ((x100_3).toNat * 3)) = some (.int .i64 ((rd_T55 t529 x100_3).f0)) ∧ w'.cell? ⟨(ad546.add ((x100_3).toNat * 3)).block, (ad546.add ((x100_3).toNat * 3)).off + 1, none⟩ = some (.int .i64 ((rd_T55 t529 x100_3).f1)) ∧ w'.cell? ⟨(ad546.add ((x100_3).toNat * 3)).block, (ad546.add ((x100_3).toNat * 3)).off + 2, none⟩ = some (.int .i64 ((rd_T55 t529 x100_3).f2)) ∧ w'.cell? (ad547.add ((x100_3).toNat * 3)) = some (.int .i64 ((rd_T55 t533 x100_3).f0)) ∧ w'.cell? ⟨(ad547.add ((x100_3).toNat * 3)).block, (ad547.add ((x100_3).toNat * 3)).off + 1, none⟩ = some (.int .i64 ((rd_T55 t533 x100_3).f1)) ∧ w'.cell? ⟨(ad547.add ((x100_3).toNat * 3)).block, (ad547.add ((x100_3).toNat * 3)).off + 2, none⟩ = some (.int .i64 ((rd_T55 t533 x100_3).f2))) (ds := []) #[false, false, false, false, false, false, false, false, false, false, false, false, false, false, false, false, false, false, false, false] (by kernel_rfl) rfl rfl ⟨hx541_0, hx541_1, hx541_2, hx546_0, hx546_1, hx546_2, hx547_0, hx547_1, hx547_2⟩ (fun hHeld => ?_); refine with_tabW w08_TreeAdds.tab25 w08_TreeAdds.bits25 (fun HT_ HW_ => ?_)
          generalize wr.drew = w90 at HO_12 HO_14 HO_16 BK508 HB hx541_0 hx541_1 hx541_2 hx546_0 hx546_1 hx546_2 hx547_0 hx547_1 hx547_2 hHeld ⊢
          refine pure_ (i := 0) (N := some 106) (v := ?_) (a' := ?_) #[true, false, false, false, false, false, false, false, false, false, false, false, false, false, false, false, false, false, false, false] rfl rfl (any_of HT_.out (by kernel_rfl)) (fun _ _ _ h => h) (Or.inl ⟨by rfl, ?_⟩) ?_ ?_
          rotate_left
          ·intro w'
           go_simp
           with_reducible rfl
          rotate_left
          ·simp only [Act.put, List.setIfInBounds_toArray, List.set_cons_zero, List.set_cons_succ, i64_w, i32_w]
           rfl
          refine pure_ (i := 1) (N := some 107) (v := ?_) (a' := ?_) #[true, true, false, false, false, false, false, false, false, false, false, false, false, false, false, false, false, false, false, false] rfl rfl (any_of HT_.out (by kernel_rfl)) (fun _ _ _ h => h) (Or.inl ⟨by rfl, ?_⟩) ?_ ?_
          rotate_left
          ·intro w'
           go_simp
           with_reducible rfl
          rotate_left
          ·simp only [Act.put, List.setIfInBounds_toArray, List.set_cons_zero, List.set_cons_succ, i64_w, i32_w]
           rfl
          refine pure_ (i := 2) (N := some 108) (v := ?_) (a' := ?_) #[true, true, true, false, false, false, false, false, false, false, false, false, false, false, false, false, false, false, false, false] rfl rfl (any_of HT_.out (by kernel_rfl)) (fun _ _ _ h => h) (Or.inl ⟨by rfl, ?_⟩) ?_ ?_
          rotate_left
          ·intro w'
           go_simp
           with_reducible rfl
          rotate_left
          ·simp only [Act.put, List.setIfInBounds_toArray, List.set_cons_zero, List.set_cons_succ, i64_w, i32_w]
           rfl
          refine pure_ (i := 3) (N := some 109) (v := ?_) (a' := ?_) #[true, true, true, true, false, false, false, false, false, false, false, false, false, false, false, false, false, false, false, false] rfl rfl (any_of HT_.out (by kernel_rfl)) (fun _ _ _ h => h) (Or.inl ⟨by rfl, ?_⟩) ?_ ?_
          rotate_left
          ·intro w'
           go_simp
           with_reducible rfl
          rotate_left
          ·simp only [Act.put, List.setIfInBounds_toArray, List.set_cons_zero, List.set_cons_succ, i64_w, i32_w]
           rfl
          refine pure_ (i := 4) (N := some 110) (v := ?_) (a' := ?_) #[true, true, true, true, true, false, false, false, false, false, false, false, false, false, false, false, false, false, false, false] rfl rfl (any_of HT_.out (by kernel_rfl)) (fun _ _ _ h => h) (Or.inl ⟨by rfl, ?_⟩) ?_ ?_
          rotate_left
          ·intro w'
           go_simp
           with_reducible rfl
          rotate_left
          ·simp only [Act.put, List.setIfInBounds_toArray, List.set_cons_zero, List.set_cons_succ, i64_w, i32_w]
           rfl
          refine pure_ (i := 6) (N := some 112) (v := ?_) (a' := ?_) #[true, true, true, true, true, false, true, false, false, false, false, false, false, false, false, false, false, false, false, false] rfl rfl (any_of HT_.out (by kernel_rfl)) (fun _ _ _ h => h) (Or.inl ⟨by rfl, ?_⟩) ?_ ?_
          rotate_left
          ·intro w'
           go_simp
           with_reducible rfl
          rotate_left
          ·simp only [Act.put, List.setIfInBounds_toArray, List.set_cons_zero, List.set_cons_succ, i64_w, i32_w]
           rfl
          refine pure_ (i := 7) (N := some 113) (v := ?_) (a' := ?_) #[true, true, true, true, true, false, true, true, false, false, false, false, false, false, false, false, false, false, false, false] rfl rfl (any_of HT_.out (by kernel_rfl)) (fun _ _ _ h => h) (Or.inl ⟨by rfl, ?_⟩) ?_ ?_
          rotate_left
          ·intro w'
           go_simp
           with_reducible rfl
          rotate_left
          ·simp only [Act.put, List.setIfInBounds_toArray, List.set_cons_zero, List.set_cons_succ, i64_w, i32_w]
           rfl
          refine pure_ (i := 8) (N := some 114) (v := ?_) (a' := ?_) #[true, true, true, true, true, false, true, true, true, false, false, false, false, false, false, false, false, false, false, false] rfl rfl (any_of HT_.out (by kernel_rfl)) (fun _ _ _ h => h) (Or.inl ⟨by rfl, ?_⟩) ?_ ?_
          rotate_left
          ·intro w'
           go_simp
           with_reducible rfl
          rotate_left
          ·simp only [Act.put, List.setIfInBounds_toArray, List.set_cons_zero, List.set_cons_succ, i64_w, i32_w]
           rfl
          refine pure_ (i := 9) (N := some 115) (v := ?_) (a' := ?_) #[true, true, true, true, true, false, true, true, true, true, false, false, false, false, false, false, false, false, false, false] rfl rfl (any_of HT_.out (by kernel_rfl)) (fun _ _ _ h => h) (Or.inl ⟨by rfl, ?_⟩) ?_ ?_
          rotate_left
          ·intro w'
           go_simp
           with_reducible rfl
          rotate_left
          ·simp only [Act.put, List.setIfInBounds_toArray, List.set_cons_zero, List.set_cons_succ, i64_w, i32_w]
           rfl
          refine pure_ (i := 10) (N := some 116) (v := ?_) (a' := ?_) #[true, true, true, true, true, false, true, true, true, true, true, false, false, false, false, false, false, false, false, false] rfl rfl (any_of HT_.out (by kernel_rfl)) (fun _ _ _ h => h) (Or.inl ⟨by rfl, ?_⟩) ?_ ?_
          rotate_left
          ·intro w'
           go_simp
           with_reducible rfl
          rotate_left
          ·simp only [Act.put, List.setIfInBounds_toArray, List.set_cons_zero, List.set_cons_succ, i64_w, i32_w]
           rfl
          refine pure_ (i := 12) (N := some 118) (v := ?_) (a' := ?_) #[true, true, true, true, true, false, true, true, true, true, true, false, true, false, false, false, false, false, false, false] rfl rfl (any_of HT_.out (by kernel_rfl)) (fun _ _ _ h => h) (Or.inl ⟨by rfl, ?_⟩) ?_ ?_
          rotate_left
          ·intro w'
           go_simp
           with_reducible rfl
          rotate_left
          ·simp only [Act.put, List.setIfInBounds_toArray, List.set_cons_zero, List.set_cons_succ, i64_w, i32_w]
           rfl
          refine pure_ (i := 13) (N := some 119) (v := ?_) (a' := ?_) #[true, true, true, true, true, false, true, true, true, true, true, false, true, true, false, false, false, false, false, false] rfl rfl (any_of HT_.out (by kernel_rfl)) (fun _ _ _ h => h) (Or.inl ⟨by rfl, ?_⟩) ?_ ?_
          rotate_left
          ·intro w'
           go_simp
           with_reducible rfl
          rotate_left
          ·simp only [Act.put, List.setIfInBounds_toArray, List.set_cons_zero, List.set_cons_succ, i64_w, i32_w]
           rfl
          refine pure_ (i := 14) (N := some 120) (v := ?_) (a' := ?_) #[true, true, true, true, true, false, true, true, true, true, true, false, true, true, true, false, false, false, false, false] rfl rfl (any_of HT_.out (by kernel_rfl)) (fun _ _ _ h => h) (Or.inl ⟨by rfl, ?_⟩) ?_ ?_
          rotate_left
          ·intro w'
           go_simp
           with_reducible rfl
          rotate_left
          ·simp only [Act.put, List.setIfInBounds_toArray, List.set_cons_zero, List.set_cons_succ, i64_w, i32_w]
           rfl
          refine pure_ (i := 15) (N := some 121) (v := ?_) (a' := ?_) #[true, true, true, true, true, false, true, true, true, true, true, false, true, true, true, true, false, false, false, false] rfl rfl (any_of HT_.out (by kernel_rfl)) (fun _ _ _ h => h) (Or.inl ⟨by rfl, ?_⟩) ?_ ?_
          rotate_left
          ·intro w'
           go_simp
           with_reducible rfl
          rotate_left
          ·simp only [Act.put, List.setIfInBounds_toArray, List.set_cons_zero, List.set_cons_succ, i64_w, i32_w]
           rfl
          refine pure_ (i := 16) (N := some 122) (v := ?_) (a' := ?_) #[true, true, true, true, true, false, true, true, true, true, true, false, true, true, true, true, true, false, false, false] rfl rfl (any_of HT_.out (by kernel_rfl)) (fun _ _ _ h => h) (Or.inl ⟨by rfl, ?_⟩) ?_ ?_
          rotate_left
          ·intro w'
           go_simp
           with_reducible rfl
          rotate_left
          ·simp only [Act.put, List.setIfInBounds_toArray, List.set_cons_zero, List.set_cons_succ, i64_w, i32_w]
           rfl
          refine take_ (i := 5) (N := some 111) (v := ?_) (a' := ?_) #[true, true, true, true, true, true, true, true, true, true, true, false, true, true, true, true, true, false, false, false] rfl rfl (take_ofW HT_.out HW_.out (by kernel_rfl)) (fun _ _ _ h => h) (Or.inl ⟨by rfl, ?_⟩) hHeld ?_ ?_
          rotate_left
          ·rintro w' ⟨s0, s1, s2, s3, s4, s5, s6, s7, s8⟩
           go_simp
           with_reducible rfl
          rotate_left
          ·simp only [Act.put, List.setIfInBounds_toArray, List.set_cons_zero, List.set_cons_succ, i64_w, i32_w]
           rfl
          refine take_ (i := 11) (N := some 117) (v := ?_) (a' := ?_) #[true, true, true, true, true, true, true, true, true, true, true, true, true, true, true, true, true, false, false, false] rfl rfl (take_ofW HT_.out HW_.out (by kernel_rfl)) (fun _ _ _ h => h) (Or.inl ⟨by rfl, ?_⟩) hHeld ?_ ?_
          rotate_left
          ·rintro w' ⟨s0, s1, s2, s3, s4, s5, s6, s7, s8⟩
           go_simp
           with_reducible rfl
          rotate_left
          ·simp only [Act.put, List.setIfInBounds_toArray, List.set_cons_zero, List.set_cons_succ, i64_w, i32_w]
           rfl
          refine take_ (i := 17) (N := some 123) (v := ?_) (a' := ?_) #[true, true, true, true, true, true, true, true, true, true, true, true, true, true, true, true, true, true, false, false] rfl rfl (take_ofW HT_.out HW_.out (by kernel_rfl)) (fun _ _ _ h => h) (Or.inl ⟨by rfl, ?_⟩) hHeld ?_ ?_
          rotate_left
          ·rintro w' ⟨s0, s1, s2, s3, s4, s5, s6, s7, s8⟩
           go_simp
           with_reducible rfl
          rotate_left
          ·simp only [Act.put, List.setIfInBounds_toArray, List.set_cons_zero, List.set_cons_succ, i64_w, i32_w]
           rfl
          refine pure_ (i := 18) (N := some 124) (v := ?_) (a' := ?_) #[true, true, true, true, true, true, true, true, true, true, true, true, true, true, true, true, true, true, true, false] rfl rfl (any_of HT_.out (by kernel_rfl)) (fun _ _ _ h => h) (Or.inl ⟨by rfl, ?_⟩) ?_ ?_
          rotate_left
          ·intro w'
           go_simp
           with_reducible rfl
          rotate_left
          ·simp only [Act.put, List.setIfInBounds_toArray, List.set_cons_zero, List.set_cons_succ, i64_w, i32_w]
           rfl
          refine pure_ (i := 19) (N := some 125) (v := ?_) (a' := ?_) #[true, true, true, true, true, true, true, true, true, true, true, true, true, true, true, true, true, true, true, true] rfl rfl (any_of HT_.out (by kernel_rfl)) (fun _ _ _ h => h) (Or.inl ⟨by rfl, ?_⟩) ?_ ?_
          rotate_left
          ·intro w'
           go_simp
           with_reducible rfl
          rotate_left
          ·simp only [Act.put, List.setIfInBounds_toArray, List.set_cons_zero, List.set_cons_succ, i64_w, i32_w]
           rfl
          refine done_ (done_of HT_.out (by kernel_rfl)) ?_
          try go_wp2
          go_ret
          exact ⟨by first | rfl | (simp [errW_none, errW_some] <;> rfl) | (simp [*, errW_none, errW_some] <;> rfl), kB1 HB GE508⟩
         rw [if_pos c86] at H
         have c86b0 : (((rd_T55 t537 x100_3).f2) == (wrap64 (((rd_T55 t529 x100_3).f2) + ((rd_T55 t533 x100_3).f2)))) = true := beq_iff_eq.mpr c86
         have c86b1 : (((rd_T55 t537 x100_3).f2) != (wrap64 (((rd_T55 t529 x100_3).f2) + ((rd_T55 t533 x100_3).f2)))) = false := bne_eq_false_iff_eq.mpr c86
         clear c86
         have H' := Aside0.mk H
         clear H
         try go_wp2
         have n0_ := Aside0.mk (Kd.R_drew HO_12.out)
         have n1_ := Aside0.mk (Kd.R_drew HO_14.out)
         have n2_ := Aside0.mk (Kd.R_drew HO_16.out)
         have n3_ := Aside0.mk (blk_drew BK508.out)
         have n4_ := Aside0.mk (below_drew1 HB.out)
         clear HO_12
         clear HO_14
         clear HO_16
         clear BK508
         clear HB
         have HO_12 := n0_
         have HO_14 := n1_
         have HO_16 := n2_
         have BK508 := n3_
         have HB := n4_
         clear n0_ n1_ n2_ n3_ n4_
         have p541 : 0 ≤ (x100_3 : Int) := tD
         have q541 : x100_3 < (t537.length : Int) := tD
         obtain ⟨ad541, e541, hx541_0, hx541_1, hx541_2⟩ := at_T55 (Kd.R_reads' HO_16.out).2.2 x100_3 p541 q541
         cases e541
         replace p541 := eq_true p541
         replace q541 := eq_true q541
         obtain ⟨Ao88, co88, eo88⟩ := Kd.R_slice HO_12.out
         (first | subst eo88 | (injection eo88 with f1_ f2_ f3_; have f4_ := f1_.symm; have f5_ := f3_.symm; clear f1_ f2_ f3_; subst f4_; subst f5_))
         have p546 : 0 ≤ (x100_3 : Int) := tD
         have q546 : x100_3 < (t529.length : Int) := tD
         obtain ⟨ad546, e546, hx546_0, hx546_1, hx546_2⟩ := at_T55 (Kd.R_reads' HO_12.out).2.2 x100_3 p546 q546
         cases e546
         replace p546 := eq_true p546
         replace q546 := eq_true q546
         obtain ⟨Ao89, co89, eo89⟩ := Kd.R_slice HO_14.out
         (first | subst eo89 | (injection eo89 with f1_ f2_ f3_; have f4_ := f1_.symm; have f5_ := f3_.symm; clear f1_ f2_ f3_; subst f4_; subst f5_))
         have p547 : 0 ≤ (x100_3 : Int) := tD
         have q547 : x100_3 < (t533.length : Int) := tD
         obtain ⟨ad547, e547, hx547_0, hx547_1, hx547_2⟩ := at_T55 (Kd.R_reads' HO_14.out).2.2 x100_3 p547 q547
         cases e547
         replace p547 := eq_true p547
         replace q547 := eq_true q547
         refine start_ (n := 20) (S := fun w' => w'.cell? (ad541.add ((x100_3).toNat * 3)) = some (.int .i64 ((rd_T55 t537 x100_3).f0)) ∧ w'.cell? ⟨(ad541.add ((x100_3).toNat * 3)).block, (ad541.add ((x100_3).toNat * 3)).off + 1, none⟩ = some (.int .i64 ((rd_T55 t537 x100_3).f1)) ∧ w'.cell? ⟨(ad541.add ((x100_3).toNat * 3)).block, (ad541.add ((x100_3).toNat * 3)).off + 2, none⟩ = some (.int .i64 ((rd_T55 t537 x100_3).f2)) ∧ w'.cell? (ad546.add ((x100_3).toNat * 3)) = some (.int .i64 ((rd_T55 t529 x100_3).f0)) ∧ w'.cell? ⟨(ad546.add ((x100_3).toNat * 3)).block, (ad546.add ((x100_3).toNat * 3)).off + 1, none⟩ = some (.int .i64 ((rd_T55 t529 x100_3).f1)) ∧ w'.cell? ⟨(ad546.add ((x100_3).toNat * 3)).block, (ad546.add ((x100_3).toNat * 3)).off + 2, none⟩ = some (.int .i64 ((rd_T55 t529 x100_3).f2)) ∧ w'.cell? (ad547.add ((x100_3).toNat * 3)) = some (.int .i64 ((rd_T55 t533 x100_3).f0)) ∧ w'.cell? ⟨(ad547.add ((x100_3).toNat * 3)).block, (ad547.add ((x100_3).toNat * 3)).off + 1, none⟩ = some (.int .i64 ((rd_T55 t533 x100_3).f1)) ∧ w'.cell? ⟨(ad547.add ((x100_3).toNat * 3)).block, (ad547.add ((x100_3).toNat * 3)).off + 2, none⟩ = some (.int .i64 ((rd_T55 t533 x100_3).f2))) (ds := []) #[false, false, false, false, false, false, false, false, false, false, false, false, false, false, false, false, false, false, false, false] (by kernel_rfl) rfl rfl ⟨hx541_0, hx541_1, hx541_2, hx546_0, hx546_1, hx546_2, hx547_0, hx547_1, hx547_2⟩ (fun hHeld => ?_); refine with_tabW w08_TreeAdds.tab25 w08_TreeAdds.bits25 (fun HT_ HW_ => ?_)
         generalize wr.drew = w87 at HO_12 HO_14 HO_16 BK508 HB hx541_0 hx541_1 hx541_2 hx546_0 hx546_1 hx546_2 hx547_0 hx547_1 hx547_2 hHeld ⊢
         refine pure_ (i := 0) (N := some 106) (v := ?_) (a' := ?_) #[true, false, false, false, false, false, false, false, false, false, false, false, false, false, false, false, false, false, false, false] rfl rfl (any_of HT_.out (by kernel_rfl)) (fun _ _ _ h => h) (Or.inl ⟨by rfl, ?_⟩) ?_ ?_
         rotate_left
         ·intro w'
          go_simp
          with_reducible rfl
         rotate_left
         ·simp only [Act.put, List.setIfInBounds_toArray, List.set_cons_zero, List.set_cons_succ, i64_w, i32_w]
          rfl
         refine pure_ (i := 1) (N := some 107) (v := ?_) (a' := ?_) #[true, true, false, false, false, false, false, false, false, false, false, false, false, false, false, false, false, false, false, false] rfl rfl (any_of HT_.out (by kernel_rfl)) (fun _ _ _ h => h) (Or.inl ⟨by rfl, ?_⟩) ?_ ?_
         rotate_left
         ·intro w'
          go_simp
          with_reducible rfl
         rotate_left
         ·simp only [Act.put, List.setIfInBounds_toArray, List.set_cons_zero, List.set_cons_succ, i64_w, i32_w]
          rfl
         refine pure_ (i := 2) (N := some 108) (v := ?_) (a' := ?_) #[true, true, true, false, false, false, false, false, false, false, false, false, false, false, false, false, false, false, false, false] rfl rfl (any_of HT_.out (by kernel_rfl)) (fun _ _ _ h => h) (Or.inl ⟨by rfl, ?_⟩) ?_ ?_
         rotate_left
         ·intro w'
          go_simp
          with_reducible rfl
         rotate_left
         ·simp only [Act.put, List.setIfInBounds_toArray, List.set_cons_zero, List.set_cons_succ, i64_w, i32_w]
          rfl
         refine pure_ (i := 3) (N := some 109) (v := ?_) (a' := ?_) #[true, true, true, true, false, false, false, false, false, false, false, false, false, false, false, false, false, false, false, false] rfl rfl (any_of HT_.out (by kernel_rfl)) (fun _ _ _ h => h) (Or.inl ⟨by rfl, ?_⟩) ?_ ?_
         rotate_left
         ·intro w'
          go_simp
          with_reducible rfl
         rotate_left
         ·simp only [Act.put, List.setIfInBounds_toArray, List.set_cons_zero, List.set_cons_succ, i64_w, i32_w]
          rfl
         refine pure_ (i := 4) (N := some 110) (v := ?_) (a' := ?_) #[true, true, true, true, true, false, false, false, false, false, false, false, false, false, false, false, false, false, false, false] rfl rfl (any_of HT_.out (by kernel_rfl)) (fun _ _ _ h => h) (Or.inl ⟨by rfl, ?_⟩) ?_ ?_
         rotate_left
         ·intro w'
          go_simp
          with_reducible rfl
         rotate_left
         ·simp only [Act.put, List.setIfInBounds_toArray, List.set_cons_zero, List.set_cons_succ, i64_w, i32_w]
          rfl
         refine pure_ (i := 6) (N := some 112) (v := ?_) (a' := ?_) #[true, true, true, true, true, false, true, false, false, false, false, false, false, false, false, false, false, false, false, false] rfl rfl (any_of HT_.out (by kernel_rfl)) (fun _ _ _ h => h) (Or.inl ⟨by rfl, ?_⟩) ?_ ?_
         rotate_left
         ·intro w'
          go_simp
          with_reducible rfl
         rotate_left
         ·simp only [Act.put, List.setIfInBounds_toArray, List.set_cons_zero, List.set_cons_succ, i64_w, i32_w]
          rfl
         refine pure_ (i := 7) (N := some 113) (v := ?_) (a' := ?_) #[true, true, true, true, true, false, true, true, false, false, false, false, false, false, false, false, false, false, false, false] rfl rfl (any_of HT_.out (by kernel_rfl)) (fun _ _ _ h => h) (Or.inl ⟨by rfl, ?_⟩) ?_ ?_
         rotate_left
         ·intro w'
          go_simp
          with_reducible rfl
         rotate_left
         ·simp only [Act.put, List.setIfInBounds_toArray, List.set_cons_zero, List.set_cons_succ, i64_w, i32_w]
          rfl
         refine pure_ (i := 8) (N := some 114) (v := ?_) (a' := ?_) #[true, true, true, true, true, false, true, true, true, false, false, false, false, false, false, false, false, false, false, false] rfl rfl (any_of HT_.out (by kernel_rfl)) (fun _ _ _ h => h) (Or.inl ⟨by rfl, ?_⟩) ?_ ?_
         rotate_left
         ·intro w'
          go_simp
          with_reducible rfl
         rotate_left
         ·simp only [Act.put, List.setIfInBounds_toArray, List.set_cons_zero, List.set_cons_succ, i64_w, i32_w]
          rfl
         refine pure_ (i := 9) (N := some 115) (v := ?_) (a' := ?_) #[true, true, true, true, true, false, true, true, true, true, false, false, false, false, false, false, false, false, false, false] rfl rfl (any_of HT_.out (by kernel_rfl)) (fun _ _ _ h => h) (Or.inl ⟨by rfl, ?_⟩) ?_ ?_
         rotate_left
         ·intro w'
          go_simp
          with_reducible rfl
         rotate_left
         ·simp only [Act.put, List.setIfInBounds_toArray, List.set_cons_zero, List.set_cons_succ, i64_w, i32_w]
          rfl
         refine pure_ (i := 10) (N := some 116) (v := ?_) (a' := ?_) #[true, true, true, true, true, false, true, true, true, true, true, false, false, false, false, false, false, false, false, false] rfl rfl (any_of HT_.out (by kernel_rfl)) (fun _ _ _ h => h) (Or.inl ⟨by rfl, ?_⟩) ?_ ?_
         rotate_left
         ·intro w'
          go_simp
          with_reducible rfl
         rotate_left
         ·simp only [Act.put, List.setIfInBounds_toArray, List.set_cons_zero, List.set_cons_succ, i64_w, i32_w]
          rfl
         refine pure_ (i := 12) (N := some 118) (v := ?_) (a' := ?_) #[true, true, true, true, true, false, true, true, true, true, true, false, true, false, false, false, false, false, false, false] rfl rfl (any_of HT_.out (by kernel_rfl)) (fun _ _ _ h => h) (Or.inl ⟨by rfl, ?_⟩) ?_ ?_
         rotate_left
         ·intro w'
          go_simp
          with_reducible rfl
         rotate_left
         ·simp only [Act.put, List.setIfInBounds_toArray, List.set_cons_zero, List.set_cons_succ, i64_w, i32_w]
          rfl
         refine pure_ (i := 13) (N := some 119) (v := ?_) (a' := ?_) #[true, true, true, true, true, false, true, true, true, true, true, false, true, true, false, false, false, false, false, false] rfl rfl (any_of HT_.out (by kernel_rfl)) (fun _ _ _ h => h) (Or.inl ⟨by rfl, ?_⟩) ?_ ?_
         rotate_left
         ·intro w'
          go_simp
          with_reducible rfl
         rotate_left
         ·simp only [Act.put, List.setIfInBounds_toArray, List.set_cons_zero, List.set_cons_succ, i64_w, i32_w]
          rfl
         refine pure_ (i := 14) (N := some 120) (v := ?_) (a' := ?_) #[true, true, true, true, true, false, true, true, true, true, true, false, true, true, true, false, false, false, false, false] rfl rfl (any_of HT_.out (by kernel_rfl)) (fun _ _ _ h => h) (Or.inl ⟨by rfl, ?_⟩) ?_ ?_
         rotate_left
         ·intro w'
          go_simp
          with_reducible rfl
         rotate_left
         ·simp only [Act.put, List.setIfInBounds_toArray, List.set_cons_zero, List.set_cons_succ, i64_w, i32_w]
          rfl
         refine pure_ (i := 15) (N := some 121) (v := ?_) (a' := ?_) #[true, true, true, true, true, false, true, true, true, true, true, false, true, true, true, true, false, false, false, false] rfl rfl (any_of HT_.out (by kernel_rfl)) (fun _ _ _ h => h) (Or.inl ⟨by rfl, ?_⟩) ?_ ?_
         rotate_left
         ·intro w'
          go_simp
          with_reducible rfl
         rotate_left
         ·simp only [Act.put, List.setIfInBounds_toArray, List.set_cons_zero, List.set_cons_succ, i64_w, i32_w]
          rfl
         refine pure_ (i := 16) (N := some 122) (v := ?_) (a' := ?_) #[true, true, true, true, true, false, true, true, true, true, true, false, true, true, true, true, true, false, false, false] rfl rfl (any_of HT_.out (by kernel_rfl)) (fun _ _ _ h => h) (Or.inl ⟨by rfl, ?_⟩) ?_ ?_
         rotate_left
         ·intro w'
          go_simp
          with_reducible rfl
         rotate_left
         ·simp only [Act.put, List.setIfInBounds_toArray, List.set_cons_zero, List.set_cons_succ, i64_w, i32_w]
          rfl
         refine take_ (i := 5) (N := some 111) (v := ?_) (a' := ?_) #[true, true, true, true, true, true, true, true, true, true, true, false, true, true, true, true, true, false, false, false] rfl rfl (take_ofW HT_.out HW_.out (by kernel_rfl)) (fun _ _ _ h => h) (Or.inl ⟨by rfl, ?_⟩) hHeld ?_ ?_
         rotate_left
         ·rintro w' ⟨s0, s1, s2, s3, s4, s5, s6, s7, s8⟩
          go_simp
          with_reducible rfl
         rotate_left
         ·simp only [Act.put, List.setIfInBounds_toArray, List.set_cons_zero, List.set_cons_succ, i64_w, i32_w]
          rfl
         refine take_ (i := 11) (N := some 117) (v := ?_) (a' := ?_) #[true, true, true, true, true, true, true, true, true, true, true, true, true, true, true, true, true, false, false, false] rfl rfl (take_ofW HT_.out HW_.out (by kernel_rfl)) (fun _ _ _ h => h) (Or.inl ⟨by rfl, ?_⟩) hHeld ?_ ?_
         rotate_left
         ·rintro w' ⟨s0, s1, s2, s3, s4, s5, s6, s7, s8⟩
          go_simp
          with_reducible rfl
         rotate_left
         ·simp only [Act.put, List.setIfInBounds_toArray, List.set_cons_zero, List.set_cons_succ, i64_w, i32_w]
          rfl
         refine take_ (i := 17) (N := some 123) (v := ?_) (a' := ?_) #[true, true, true, true, true, true, true, true, true, true, true, true, true, true, true, true, true, true, false, false] rfl rfl (take_ofW HT_.out HW_.out (by kernel_rfl)) (fun _ _ _ h => h) (Or.inl ⟨by rfl, ?_⟩) hHeld ?_ ?_
         rotate_left
         ·rintro w' ⟨s0, s1, s2, s3, s4, s5, s6, s7, s8⟩
          go_simp
          with_reducible rfl
         rotate_left
         ·simp only [Act.put, List.setIfInBounds_toArray, List.set_cons_zero, List.set_cons_succ, i64_w, i32_w]
          rfl
         refine pure_ (i := 18) (N := some 124) (v := ?_) (a' := ?_) #[true, true, true, true, true, true, true, true, true, true, true, true, true, true, true, true, true, true, true, false] rfl rfl (any_of HT_.out (by kernel_rfl)) (fun _ _ _ h => h) (Or.inl ⟨by rfl, ?_⟩) ?_ ?_
         rotate_left
         ·intro w'
          go_simp
          with_reducible rfl
         rotate_left
         ·simp only [Act.put, List.setIfInBounds_toArray, List.set_cons_zero, List.set_cons_succ, i64_w, i32_w]
          rfl
         refine pure_ (i := 19) (N := some 125) (v := ?_) (a' := ?_) #[true, true, true, true, true, true, true, true, true, true, true, true, true, true, true, true, true, true, true, true] rfl rfl (any_of HT_.out (by kernel_rfl)) (fun _ _ _ h => h) (Or.inl ⟨by rfl, ?_⟩) ?_ ?_
         rotate_left
         ·intro w'
          go_simp
          with_reducible rfl
         rotate_left
         ·simp only [Act.put, List.setIfInBounds_toArray, List.set_cons_zero, List.set_cons_succ, i64_w, i32_w]
          rfl
         refine done_ (done_of HT_.out (by kernel_rfl)) ?_
         try go_wp2
         go_roundg k4
         case measure => have := HK1.out; have := HJ45.out; have := HK3.out; have := HK4.out; omega
         case rel => exact ⟨(wrap64 (x103_4 + 1)), tQ, H', ⟨by have := HK1.out; have := HJ45.out; have := HK3.out; have := HK4.out; omega⟩, ⟨kR HO_12⟩, ⟨kR HO_14⟩, ⟨kR HO_16⟩, ⟨kK BK508⟩, ⟨kB1 HB GE508⟩⟩
def w08_TreeAdds.Pure : Prop := ∀ (s0 : S28) (l1 : List Int) (l2 : List Int), (wfS28 s0) → (l1.length ≤ maxLen ∧ ∀ x_ ∈ l1, (Lit.int .u8 x_).wf = true) → (l2.length ≤ maxLen ∧ ∀ x_ ∈ l2, (Lit.int .u8 x_).wf = true) → ∃ k, w08_TreeAdds.f k s0.f0 s0.f1 s0.f2 s0.f3 s0.f4 l1 l2 = some true
theorem w08_TreeAdds.walk (P : w08_TreeAdds.Pure) (s0 : S28) (l1 : List Int) (l2 : List Int) (cs0 : Array Value) (A1 : Option Addr) (c1 : Nat) (A2 : Option Addr) (c2 : Nat) (w : World) (w0 : wfS28 s0) (w1 : l1.length ≤ maxLen ∧ ∀ x_ ∈ l1, (Lit.int .u8 x_).wf = true) (w2 : l2.length ≤ maxLen ∧ ∀ x_ ∈ l2, (Lit.int .u8 x_).wf = true) (K0 : k28.K w s0 cs0.toList) (C1 : Kd.C (Kd.int .u8) w A1 l1.length l1) (hc1 : l1.length ≤ c1) (C2 : Kd.C (Kd.int .u8) w A2 l2.length l2) (hc2 : l2.length ≤ c2) :
    Calls Try.prog 7 #[.agg cs0, .slice A1 l1.length c1, .slice A2 l2.length c2] w fun e w' => e = .returned (.bool true) ∧ Below w.heap.size w w' := by
 obtain ⟨k, h⟩ := P s0 l1 l2 w0 w1 w2
 obtain ⟨A0_0, e0_0, A0_1, e0_1, A0_2, e0_2, A0_3, e0_3, A0_4, e0_4, hs0, hl0_0, hC0_0, hl0_1, hC0_1, hl0_2, hC0_2, hl0_3, hC0_3, hl0_4, hC0_4⟩ := k28_open K0
 obtain ⟨L0⟩ := cs0
 obtain rfl : L0 = _ := hs0
 refine (w08_TreeAdds.calls k _ _ s0.f0 _ _ s0.f1 _ _ s0.f2 _ _ s0.f3 _ _ s0.f4 _ _ l1 _ _ l2 true w hC0_0 hl0_0 hC0_1 hl0_1 hC0_2 hl0_2 hC0_3 hl0_3 hC0_4 hl0_4 C1 hc1 C2 hc2 h).mono ?_
 rintro e w' ⟨rfl, hd⟩
 exact ⟨rfl, hd⟩
end Go.Proofs.Ytpdmnineampimaa.Q
