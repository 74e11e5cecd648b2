import Derived.Test.YtpdmnineampimaaYe
import Derived.Test.YtpdmnineampimaaYQx31
import Derived.Test.YtpdmnineampimaaYQx48
import Derived.Test.YtpdmnineampimaaYQx52
import Derived.Test.YtpdmnineampimaaYQx53
set_option linter.unusedVariables false
set_option linter.unusedSimpArgs false
namespace Go.Proofs.Ytpdmnineampimaa.Q
open Go.RowKit Go.Proofs.YtpdmnineampimaaW.PrintWords Go.Proofs.YtpdmnineampimaaW.PrintLast Go.Proofs.YtpdmnineampimaaW.PrintMore
attribute [local go_sem] max2_int min2_int max_two min_two max_three min_three max_four min_four
attribute [local go_sem high] eqA55
mutual
def w08_TreeSums.l0 : Nat → Bool → List Int → List (S55) → Int → Int → List (S48) → List (S62) → List (S84) → List (S42) → List (S87) → Option (Bool)
  | 0, _, _, _, _, _, _, _, _, _, _ => none
  | k + 1, x5, x6, x7, x35, x36, x487000, x487001, x487002, x487003, x487004 => if x36 < x35 then (w08_TreeSums.l1 k x5 x6 x7 x36 x35 x36 x487003 (x487003.length : Int) 0 x487000 x487001 x487002 x487003 x487004 0 0 0) else (some x5)
def w08_TreeSums.l1 : Nat → Bool → List Int → List (S55) → Int → Int → Int → List (S42) → Int → Int → List (S48) → List (S62) → List (S84) → List (S42) → List (S87) → Int → Int → Int → Option (Bool)
  | 0, _, _, _, _, _, _, _, _, _, _, _, _, _, _, _, _, _ => none
  | k + 1, x5, x6, x7, x9, x35, x36, x40, x41, x42, x487000, x487001, x487002, x487003, x487004, x497000, x497001, x497002 => if x42 < x41 then (if 0 ≤ x42 then (if x42 < (x40.length : Int) then (w08_TreeSums.l2 k x5 x6 x7 x9 x42 x35 x36 x40 x41 x42 0 x487000 x487001 x487002 x487003 x487004 x497000 x497001 x497002 ((rd_T42 x40 x42).f0) ((rd_T42 x40 x42).f1) ((rd_T42 x40 x42).f2) ((rd_T42 x40 x42).f3) ((rd_T42 x40 x42).f4) ((rd_T42 x40 x42).f5) ((rd_T42 x40 x42).f6) ((rd_T42 x40 x42).f7)) else (none)) else (none)) else (w08_TreeSums.l3 k x5 x6 x7 x9 x35 x36 x487000 (x487000.length : Int) 0 x487000 x487001 x487002 x487003 x487004 x497000 x497001 x497002)
def w08_TreeSums.l2 : Nat → Bool → List Int → List (S55) → Int → Int → Int → Int → List (S42) → Int → Int → Int → List (S48) → List (S62) → List (S84) → List (S42) → List (S87) → Int → Int → Int → ByteArray → Int → Int → Int → Int → Int → Int → Int → Option (Bool)
  | 0, _, _, _, _, _, _, _, _, _, _, _, _, _, _, _, _, _, _, _, _, _, _, _, _, _, _, _ => none
  | k + 1, x5, x6, x7, x9, x11, x35, x36, x40, x41, x42, x47, x487000, x487001, x487002, x487003, x487004, x497000, x497001, x497002, x499000, x499001, x499002, x499003, x499004, x499005, x499006, x499007 => if x47 < 3 then (if x499001 = x9 then (if 0 ≤ x47 then (if (Go.bits .and .i64 (shr .i64 x499002 x47) 1) = 1 then (if x47 = 0 then (if 0 ≤ x11 then (if x11 < (x6.length : Int) then (w08_TreeSums.l2 k x5 x6 x7 x9 x11 x35 x36 x40 x41 x42 (wrap64 (x47 + 1)) x487000 x487001 x487002 x487003 x487004 (wrap64 (x497000 + (rd x6 x11))) x497001 x497002 x499000 x499001 x499002 x499003 x499004 x499005 x499006 x499007) else (none)) else (none)) else (if x47 = 1 then (if 0 ≤ x11 then (if x11 < (x6.length : Int) then (w08_TreeSums.l2 k x5 x6 x7 x9 x11 x35 x36 x40 x41 x42 (wrap64 (x47 + 1)) x487000 x487001 x487002 x487003 x487004 x497000 (wrap64 (x497001 + (rd x6 x11))) x497002 x499000 x499001 x499002 x499003 x499004 x499005 x499006 x499007) else (none)) else (none)) else (if x47 = 2 then (if 0 ≤ x11 then (if x11 < (x6.length : Int) then (w08_TreeSums.l2 k x5 x6 x7 x9 x11 x35 x36 x40 x41 x42 (wrap64 (x47 + 1)) x487000 x487001 x487002 x487003 x487004 x497000 x497001 (wrap64 (x497002 + (rd x6 x11))) x499000 x499001 x499002 x499003 x499004 x499005 x499006 x499007) else (none)) else (none)) else (none)))) else (w08_TreeSums.l2 k x5 x6 x7 x9 x11 x35 x36 x40 x41 x42 (wrap64 (x47 + 1)) x487000 x487001 x487002 x487003 x487004 x497000 x497001 x497002 x499000 x499001 x499002 x499003 x499004 x499005 x499006 x499007)) else (none)) else (w08_TreeSums.l2 k x5 x6 x7 x9 x11 x35 x36 x40 x41 x42 (wrap64 (x47 + 1)) x487000 x487001 x487002 x487003 x487004 x497000 x497001 x497002 x499000 x499001 x499002 x499003 x499004 x499005 x499006 x499007)) else (w08_TreeSums.l1 k x5 x6 x7 x9 x35 x36 x40 x41 (wrap64 (x42 + 1)) x487000 x487001 x487002 x487003 x487004 x497000 x497001 x497002)
def w08_TreeSums.l3 : Nat → Bool → List Int → List (S55) → Int → Int → Int → List (S48) → Int → Int → List (S48) → List (S62) → List (S84) → List (S42) → List (S87) → Int → Int → Int → Option (Bool)
  | 0, _, _, _, _, _, _, _, _, _, _, _, _, _, _, _, _, _ => none
  | k + 1, x5, x6, x7, x9, x35, x36, x74, x75, x76, x487000, x487001, x487002, x487003, x487004, x497000, x497001, x497002 => if x76 < x75 then (if 0 ≤ x76 then (if x76 < (x74.length : Int) then (w08_TreeSums.l4 k x5 x6 x7 x9 x76 x35 x36 x74 x75 x76 0 x487000 x487001 x487002 x487003 x487004 x497000 x497001 x497002 ((rd_T48 x74 x76).f0) ((rd_T48 x74 x76).f1) ((rd_T48 x74 x76).f2) ((rd_T48 x74 x76).f3) ((rd_T48 x74 x76).f4.f0) ((rd_T48 x74 x76).f4.f1) ((rd_T48 x74 x76).f5.f0) ((rd_T48 x74 x76).f5.f1) ((rd_T48 x74 x76).f5.f2) ((rd_T48 x74 x76).f5.f3) ((rd_T48 x74 x76).f5.f4)) else (none)) else (none)) else (if 0 ≤ x9 then (if x9 < (x7.length : Int) then (if (!(((rd_T55 x7 x9).f0) == x497000) || (!(((rd_T55 x7 x9).f1) == x497001) || (!(((rd_T55 x7 x9).f2) == x497002)))) = true then (some false) else (w08_TreeSums.l0 k x5 x6 x7 x35 (wrap64 (x36 + 1)) x487000 x487001 x487002 x487003 x487004)) else (none)) else (none))
def w08_TreeSums.l4 : Nat → Bool → List Int → List (S55) → Int → Int → Int → Int → List (S48) → Int → Int → Int → List (S48) → List (S62) → List (S84) → List (S42) → List (S87) → Int → Int → Int → ByteArray → Int → Int → Int → Int → Int → Int → Int → Int → Int → Int → Option (Bool)
  | 0, _, _, _, _, _, _, _, _, _, _, _, _, _, _, _, _, _, _, _, _, _, _, _, _, _, _, _, _, _, _ => none
  | k + 1, x5, x6, x7, x9, x14, x35, x36, x74, x75, x76, x81, x487000, x487001, x487002, x487003, x487004, x497000, x497001, x497002, x505000, x505001, x505002, x505003, x505004, x505005, x505006, x505007, x505008, x505009, x505010 => if x81 < 3 then (if x505001 = x9 then (if x81 = 0 then (if 0 ≤ x14 then (if x14 < (x7.length : Int) then (w08_TreeSums.l4 k x5 x6 x7 x9 x14 x35 x36 x74 x75 x76 (wrap64 (x81 + 1)) x487000 x487001 x487002 x487003 x487004 (wrap64 (x497000 + ((rd_T55 x7 x14).f0))) x497001 x497002 x505000 x505001 x505002 x505003 x505004 x505005 x505006 x505007 x505008 x505009 x505010) else (none)) else (none)) else (if x81 = 1 then (if 0 ≤ x14 then (if x14 < (x7.length : Int) then (w08_TreeSums.l4 k x5 x6 x7 x9 x14 x35 x36 x74 x75 x76 (wrap64 (x81 + 1)) x487000 x487001 x487002 x487003 x487004 x497000 (wrap64 (x497001 + ((rd_T55 x7 x14).f1))) x497002 x505000 x505001 x505002 x505003 x505004 x505005 x505006 x505007 x505008 x505009 x505010) else (none)) else (none)) else (if x81 = 2 then (if 0 ≤ x14 then (if x14 < (x7.length : Int) then (w08_TreeSums.l4 k x5 x6 x7 x9 x14 x35 x36 x74 x75 x76 (wrap64 (x81 + 1)) x487000 x487001 x487002 x487003 x487004 x497000 x497001 (wrap64 (x497002 + ((rd_T55 x7 x14).f2))) x505000 x505001 x505002 x505003 x505004 x505005 x505006 x505007 x505008 x505009 x505010) else (none)) else (none)) else (none)))) else (w08_TreeSums.l4 k x5 x6 x7 x9 x14 x35 x36 x74 x75 x76 (wrap64 (x81 + 1)) x487000 x487001 x487002 x487003 x487004 x497000 x497001 x497002 x505000 x505001 x505002 x505003 x505004 x505005 x505006 x505007 x505008 x505009 x505010)) else (w08_TreeSums.l3 k x5 x6 x7 x9 x35 x36 x74 x75 (wrap64 (x76 + 1)) x487000 x487001 x487002 x487003 x487004 x497000 x497001 x497002)
end
def w08_TreeSums.f (k : Nat) (l0_0 : List (S48)) (l0_1 : List (S62)) (l0_2 : List (S84)) (l0_3 : List (S42)) (l0_4 : List (S87)) (l1 : List Int) : Option (Bool) := (w08_head.f k).bind fun t487 => ((w08_usable.f k l0_0 l0_1 l0_2 l0_3 l0_4).bind fun t488 => (if t488 = true then ((w08_currents.f k l0_0 l0_1 l0_2 l0_3 l0_4 l1).bind fun t489 => ((w08_loads.f l0_0 l0_1 l0_2 l0_3 l0_4 t489).bind fun bt492 => (if bt492.2 = true then (w08_TreeSums.l0 k t487 t489 bt492.1 (l0_0.length : Int) 0 l0_0 l0_1 l0_2 l0_3 l0_4) else (some false)))) else (some t487)))
theorem w08_TreeSums.mono_l : ∀ k, (∀ y0 y1 y2 y3 y4 y5 y6 y7 y8 y9, LeO (w08_TreeSums.l0 k y0 y1 y2 y3 y4 y5 y6 y7 y8 y9) (w08_TreeSums.l0 (k + 1) y0 y1 y2 y3 y4 y5 y6 y7 y8 y9)) ∧ (∀ y0 y1 y2 y3 y4 y5 y6 y7 y8 y9 y10 y11 y12 y13 y14 y15 y16, LeO (w08_TreeSums.l1 k y0 y1 y2 y3 y4 y5 y6 y7 y8 y9 y10 y11 y12 y13 y14 y15 y16) (w08_TreeSums.l1 (k + 1) y0 y1 y2 y3 y4 y5 y6 y7 y8 y9 y10 y11 y12 y13 y14 y15 y16)) ∧ (∀ y0 y1 y2 y3 y4 y5 y6 y7 y8 y9 y10 y11 y12 y13 y14 y15 y16 y17 y18 y19 y20 y21 y22 y23 y24 y25 y26, LeO (w08_TreeSums.l2 k y0 y1 y2 y3 y4 y5 y6 y7 y8 y9 y10 y11 y12 y13 y14 y15 y16 y17 y18 y19 y20 y21 y22 y23 y24 y25 y26) (w08_TreeSums.l2 (k + 1) y0 y1 y2 y3 y4 y5 y6 y7 y8 y9 y10 y11 y12 y13 y14 y15 y16 y17 y18 y19 y20 y21 y22 y23 y24 y25 y26)) ∧ (∀ y0 y1 y2 y3 y4 y5 y6 y7 y8 y9 y10 y11 y12 y13 y14 y15 y16, LeO (w08_TreeSums.l3 k y0 y1 y2 y3 y4 y5 y6 y7 y8 y9 y10 y11 y12 y13 y14 y15 y16) (w08_TreeSums.l3 (k + 1) y0 y1 y2 y3 y4 y5 y6 y7 y8 y9 y10 y11 y12 y13 y14 y15 y16)) ∧ (∀ y0 y1 y2 y3 y4 y5 y6 y7 y8 y9 y10 y11 y12 y13 y14 y15 y16 y17 y18 y19 y20 y21 y22 y23 y24 y25 y26 y27 y28 y29, LeO (w08_TreeSums.l4 k y0 y1 y2 y3 y4 y5 y6 y7 y8 y9 y10 y11 y12 y13 y14 y15 y16 y17 y18 y19 y20 y21 y22 y23 y24 y25 y26 y27 y28 y29) (w08_TreeSums.l4 (k + 1) y0 y1 y2 y3 y4 y5 y6 y7 y8 y9 y10 y11 y12 y13 y14 y15 y16 y17 y18 y19 y20 y21 y22 y23 y24 y25 y26 y27 y28 y29))
  | 0 => ⟨fun _ _ _ _ _ _ _ _ _ _ r h => by simp [w08_TreeSums.l0] at h, fun _ _ _ _ _ _ _ _ _ _ _ _ _ _ _ _ _ r h => by simp [w08_TreeSums.l1] at h, fun _ _ _ _ _ _ _ _ _ _ _ _ _ _ _ _ _ _ _ _ _ _ _ _ _ _ _ r h => by simp [w08_TreeSums.l2] at h, fun _ _ _ _ _ _ _ _ _ _ _ _ _ _ _ _ _ r h => by simp [w08_TreeSums.l3] at h, fun _ _ _ _ _ _ _ _ _ _ _ _ _ _ _ _ _ _ _ _ _ _ _ _ _ _ _ _ _ _ r h => by simp [w08_TreeSums.l4] at h⟩
  | k + 1 => by
    obtain ⟨ih0, ih1, ih2, ih3, ih4⟩ := w08_TreeSums.mono_l k
    refine ⟨?_, ?_, ?_, ?_, ?_⟩
    · intro y0 y1 y2 y3 y4 y5 y6 y7 y8 y9
      unfold w08_TreeSums.l0
      repeat' first
      | (with_reducible exact ih0 _ _ _ _ _ _ _ _ _ _)
      | (with_reducible exact ih1 _ _ _ _ _ _ _ _ _ _ _ _ _ _ _ _ _)
      | (with_reducible exact ih2 _ _ _ _ _ _ _ _ _ _ _ _ _ _ _ _ _ _ _ _ _ _ _ _ _ _ _)
      | (with_reducible exact ih3 _ _ _ _ _ _ _ _ _ _ _ _ _ _ _ _ _)
      | (with_reducible exact ih4 _ _ _ _ _ _ _ _ _ _ _ _ _ _ _ _ _ _ _ _ _ _ _ _ _ _ _ _ _ _)
      | (with_reducible exact w08_currents.mono _ _ _ _ _ _ _)
      | (with_reducible exact w08_head.mono _)
      | (with_reducible exact w08_usable.mono _ _ _ _ _ _)
      | (with_reducible exact LeO.refl _)
      | (with_reducible exact LeO.none _)
      | (with_reducible refine LeO.ite ?_ ?_)
      | (with_reducible refine LeO.bind ?_ (fun _ => ?_))
      | exact ih0 _ _ _ _ _ _ _ _ _ _
      | exact ih1 _ _ _ _ _ _ _ _ _ _ _ _ _ _ _ _ _
      | exact ih2 _ _ _ _ _ _ _ _ _ _ _ _ _ _ _ _ _ _ _ _ _ _ _ _ _ _ _
      | exact ih3 _ _ _ _ _ _ _ _ _ _ _ _ _ _ _ _ _
      | exact ih4 _ _ _ _ _ _ _ _ _ _ _ _ _ _ _ _ _ _ _ _ _ _ _ _ _ _ _ _ _ _
      | exact w08_currents.mono _ _ _ _ _ _ _
      | exact w08_head.mono _
      | exact w08_usable.mono _ _ _ _ _ _
      | exact LeO.none _
      | refine LeO.ite ?_ ?_
      | refine LeO.bind ?_ (fun _ => ?_)
    · intro y0 y1 y2 y3 y4 y5 y6 y7 y8 y9 y10 y11 y12 y13 y14 y15 y16
      unfold w08_TreeSums.l1
      repeat' first
      | (with_reducible exact ih0 _ _ _ _ _ _ _ _ _ _)
      | (with_reducible exact ih1 _ _ _ _ _ _ _ _ _ _ _ _ _ _ _ _ _)
      | (with_reducible exact ih2 _ _ _ _ _ _ _ _ _ _ _ _ _ _ _ _ _ _ _ _ _ _ _ _ _ _ _)
      | (with_reducible exact ih3 _ _ _ _ _ _ _ _ _ _ _ _ _ _ _ _ _)
      | (with_reducible exact ih4 _ _ _ _ _ _ _ _ _ _ _ _ _ _ _ _ _ _ _ _ _ _ _ _ _ _ _ _ _ _)
      | (with_reducible exact w08_currents.mono _ _ _ _ _ _ _)
      | (with_reducible exact w08_head.mono _)
      | (with_reducible exact w08_usable.mono _ _ _ _ _ _)
      | (with_reducible exact LeO.refl _)
      | (with_reducible exact LeO.none _)
      | (with_reducible refine LeO.ite ?_ ?_)
      | (with_reducible refine LeO.bind ?_ (fun _ => ?_))
      | exact ih0 _ _ _ _ _ _ _ _ _ _
      | exact ih1 _ _ _ _ _ _ _ _ _ _ _ _ _ _ _ _ _
      | exact ih2 _ _ _ _ _ _ _ _ _ _ _ _ _ _ _ _ _ _ _ _ _ _ _ _ _ _ _
      | exact ih3 _ _ _ _ _ _ _ _ _ _ _ _ _ _ _ _ _
      | exact ih4 _ _ _ _ _ _ _ _ _ _ _ _ _ _ _ _ _ _ _ _ _ _ _ _ _ _ _ _ _ _
      | exact w08_currents.mono _ _ _ _ _ _ _
      | exact w08_head.mono _
      | exact w08_usable.mono _ _ _ _ _ _
      | exact LeO.none _
      | refine LeO.ite ?_ ?_
      | refine LeO.bind ?_ (fun _ => ?_)
    · intro y0 y1 y2 y3 y4 y5 y6 y7 y8 y9 y10 y11 y12 y13 y14 y15 y16 y17 y18 y19 y20 y21 y22 y23 y24 y25 y26
      unfold w08_TreeSums.l2
      repeat' first
      | (with_reducible exact ih0 _ _ _ _ _ _ _ _ _ _)
      | (with_reducible exact ih1 _ _ _ _ _ _ _ _ _ _ _ _ _ _ _ _ _)
      | (with_reducible exact ih2 _ _ _ _ _ _ _ _ _ _ _ _ _ _ _ _ _ _ _ _ _ _ _ _ _ _ _)
      | (with_reducible exact ih3 _ _ _ _ _ _ _ _ _ _ _ _ _ _ _ _ _)
      | (with_reducible exact ih4 _ _ _ _ _ _ _ _ _ _ _ _ _ _ _ _ _ _ _ _ _ _ _ _ _ _ _ _ _ _)
      | (with_reducible exact w08_currents.mono _ _ _ _ _ _ _)
      | (with_reducible exact w08_head.mono _)
      | (with_reducible exact w08_usable.mono _ _ _ _ _ _)
      | (with_reducible exact LeO.refl _)
      | (with_reducible exact LeO.none _)
      | (with_reducible refine LeO.ite ?_ ?_)
      | (with_reducible refine LeO.bind ?_ (fun _ => ?_))
      | exact ih0 _ _ _ _ _ _ _ _ _ _
      | exact ih1 _ _ _ _ _ _ _ _ _ _ _ _ _ _ _ _ _
      | exact ih2 _ _ _ _ _ _ _ _ _ _ _ _ _ _ _ _ _ _ _ _ _ _ _ _ _ _ _
      | exact ih3 _ _ _ _ _ _ _ _ _ _ _ _ _ _ _ _ _
      | exact ih4 _ _ _ _ _ _ _ _ _ _ _ _ _ _ _ _ _ _ _ _ _ _ _ _ _ _ _ _ _ _
      | exact w08_currents.mono _ _ _ _ _ _ _
      | exact w08_head.mono _
      | exact w08_usable.mono _ _ _ _ _ _
      | exact LeO.none _
      | refine LeO.ite ?_ ?_
      | refine LeO.bind ?_ (fun _ => ?_)
    · intro y0 y1 y2 y3 y4 y5 y6 y7 y8 y9 y10 y11 y12 y13 y14 y15 y16
      unfold w08_TreeSums.l3
      repeat' first
      | (with_reducible exact ih0 _ _ _ _ _ _ _ _ _ _)
      | (with_reducible exact ih1 _ _ _ _ _ _ _ _ _ _ _ _ _ _ _ _ _)
      | (with_reducible exact ih2 _ _ _ _ _ _ _ _ _ _ _ _ _ _ _ _ _ _ _ _ _ _ _ _ _ _ _)
      | (with_reducible exact ih3 _ _ _ _ _ _ _ _ _ _ _ _ _ _ _ _ _)
      | (with_reducible exact ih4 _ _ _ _ _ _ _ _ _ _ _ _ _ _ _ _ _ _ _ _ _ _ _ _ _ _ _ _ _ _)
      | (with_reducible exact w08_currents.mono _ _ _ _ _ _ _)
      | (with_reducible exact w08_head.mono _)
      | (with_reducible exact w08_usable.mono _ _ _ _ _ _)
      | (with_reducible exact LeO.refl _)
      | (with_reducible exact LeO.none _)
      | (with_reducible refine LeO.ite ?_ ?_)
      | (with_reducible refine LeO.bind ?_ (fun _ => ?_))
      | exact ih0 _ _ _ _ _ _ _ _ _ _
      | exact ih1 _ _ _ _ _ _ _ _ _ _ _ _ _ _ _ _ _
      | exact ih2 _ _ _ _ _ _ _ _ _ _ _ _ _ _ _ _ _ _ _ _ _ _ _ _ _ _ _
      | exact ih3 _ _ _ _ _ _ _ _ _ _ _ _ _ _ _ _ _
      | exact ih4 _ _ _ _ _ _ _ _ _ _ _ _ _ _ _ _ _ _ _ _ _ _ _ _ _ _ _ _ _ _
      | exact w08_currents.mono _ _ _ _ _ _ _
      | exact w08_head.mono _
      | exact w08_usable.mono _ _ _ _ _ _
      | exact LeO.none _
      | refine LeO.ite ?_ ?_
      | refine LeO.bind ?_ (fun _ => ?_)
    · intro y0 y1 y2 y3 y4 y5 y6 y7 y8 y9 y10 y11 y12 y13 y14 y15 y16 y17 y18 y19 y20 y21 y22 y23 y24 y25 y26 y27 y28 y29
      unfold w08_TreeSums.l4
      repeat' first
      | (with_reducible exact ih0 _ _ _ _ _ _ _ _ _ _)
      | (with_reducible exact ih1 _ _ _ _ _ _ _ _ _ _ _ _ _ _ _ _ _)
      | (with_reducible exact ih2 _ _ _ _ _ _ _ _ _ _ _ _ _ _ _ _ _ _ _ _ _ _ _ _ _ _ _)
      | (with_reducible exact ih3 _ _ _ _ _ _ _ _ _ _ _ _ _ _ _ _ _)
      | (with_reducible exact ih4 _ _ _ _ _ _ _ _ _ _ _ _ _ _ _ _ _ _ _ _ _ _ _ _ _ _ _ _ _ _)
      | (with_reducible exact w08_currents.mono _ _ _ _ _ _ _)
      | (with_reducible exact w08_head.mono _)
      | (with_reducible exact w08_usable.mono _ _ _ _ _ _)
      | (with_reducible exact LeO.refl _)
      | (with_reducible exact LeO.none _)
      | (with_reducible refine LeO.ite ?_ ?_)
      | (with_reducible refine LeO.bind ?_ (fun _ => ?_))
      | exact ih0 _ _ _ _ _ _ _ _ _ _
      | exact ih1 _ _ _ _ _ _ _ _ _ _ _ _ _ _ _ _ _
      | exact ih2 _ _ _ _ _ _ _ _ _ _ _ _ _ _ _ _ _ _ _ _ _ _ _ _ _ _ _
      | exact ih3 _ _ _ _ _ _ _ _ _ _ _ _ _ _ _ _ _
      | exact ih4 _ _ _ _ _ _ _ _ _ _ _ _ _ _ _ _ _ _ _ _ _ _ _ _ _ _ _ _ _ _
      | exact w08_currents.mono _ _ _ _ _ _ _
      | exact w08_head.mono _
      | exact w08_usable.mono _ _ _ _ _ _
      | exact LeO.none _
      | refine LeO.ite ?_ ?_
      | refine LeO.bind ?_ (fun _ => ?_)
theorem w08_TreeSums.mono : ∀ a0 a1 a2 a3 a4 a5 k, LeO (w08_TreeSums.f k a0 a1 a2 a3 a4 a5) (w08_TreeSums.f (k + 1) a0 a1 a2 a3 a4 a5) := by
  intro a0 a1 a2 a3 a4 a5 k
  obtain ⟨ih0, ih1, ih2, ih3, ih4⟩ := w08_TreeSums.mono_l k
  unfold w08_TreeSums.f
  repeat' first
      | (with_reducible exact ih0 _ _ _ _ _ _ _ _ _ _)
      | (with_reducible exact ih1 _ _ _ _ _ _ _ _ _ _ _ _ _ _ _ _ _)
      | (with_reducible exact ih2 _ _ _ _ _ _ _ _ _ _ _ _ _ _ _ _ _ _ _ _ _ _ _ _ _ _ _)
      | (with_reducible exact ih3 _ _ _ _ _ _ _ _ _ _ _ _ _ _ _ _ _)
      | (with_reducible exact ih4 _ _ _ _ _ _ _ _ _ _ _ _ _ _ _ _ _ _ _ _ _ _ _ _ _ _ _ _ _ _)
      | (with_reducible exact w08_currents.mono _ _ _ _ _ _ _)
      | (with_reducible exact w08_head.mono _)
      | (with_reducible exact w08_usable.mono _ _ _ _ _ _)
      | (with_reducible exact LeO.refl _)
      | (with_reducible exact LeO.none _)
      | (with_reducible refine LeO.ite ?_ ?_)
      | (with_reducible refine LeO.bind ?_ (fun _ => ?_))
      | exact ih0 _ _ _ _ _ _ _ _ _ _
      | exact ih1 _ _ _ _ _ _ _ _ _ _ _ _ _ _ _ _ _
      | exact ih2 _ _ _ _ _ _ _ _ _ _ _ _ _ _ _ _ _ _ _ _ _ _ _ _ _ _ _
      | exact ih3 _ _ _ _ _ _ _ _ _ _ _ _ _ _ _ _ _
      | exact ih4 _ _ _ _ _ _ _ _ _ _ _ _ _ _ _ _ _ _ _ _ _ _ _ _ _ _ _ _ _ _
      | exact w08_currents.mono _ _ _ _ _ _ _
      | exact w08_head.mono _
      | exact w08_usable.mono _ _ _ _ _ _
      | exact LeO.none _
      | refine LeO.ite ?_ ?_
      | refine LeO.bind ?_ (fun _ => ?_)
def w08_TreeSums.T19 : Bool × List (List Nat × List Nat) := (true, [([], []), ([0], [0]), ([1], [1]), ([], []), ([], []), ([3, 4], [3, 4]), ([5], [5]), ([2, 6], [2, 6]), ([0, 0, 1, 2, 3, 4, 5, 6, 7], [0]), ([8, 7, 0, 1, 2, 3, 4, 5, 6, 7], [7, 8])])
def w08_TreeSums.B19 : List Nat := [0, 1, 3, 0, 0, 24, 56, 127, 255, 511]
theorem w08_TreeSums.tab19 : rtab .any (opsOf Try.f6 19) = w08_TreeSums.T19 := by kernel_rfl
theorem w08_TreeSums.bits19 : waitsOk w08_TreeSums.T19.2 w08_TreeSums.B19 = true := by kernel_rfl
def w08_TreeSums.T29 : Bool × List (List Nat × List Nat) := (true, [([], []), ([0], [0]), ([1], [1]), ([], []), ([], []), ([], []), ([3, 4], [3, 4]), ([6, 5], [5, 6]), ([7], [7]), ([2, 8], [2, 8]), ([0, 0, 1, 2, 3, 4, 5, 6, 7, 8, 9], [0]), ([10, 9, 0, 1, 2, 3, 4, 5, 6, 7, 8, 9], [9, 10])])
def w08_TreeSums.B29 : List Nat := [0, 1, 3, 0, 0, 0, 24, 120, 248, 511, 1023, 2047]
theorem w08_TreeSums.tab29 : rtab .any (opsOf Try.f6 29) = w08_TreeSums.T29 := by kernel_rfl
theorem w08_TreeSums.bits29 : waitsOk w08_TreeSums.T29.2 w08_TreeSums.B29 = true := by kernel_rfl
set_option maxHeartbeats 8000000 in
set_option maxRecDepth 100000 in
theorem w08_TreeSums.calls (k : Nat) (A0_0 : Option Addr) (c0_0 : Nat) (l0_0 : List (S48)) (A0_1 : Option Addr) (c0_1 : Nat) (l0_1 : List (S62)) (A0_2 : Option Addr) (c0_2 : Nat) (l0_2 : List (S84)) (A0_3 : Option Addr) (c0_3 : Nat) (l0_3 : List (S42)) (A0_4 : Option Addr) (c0_4 : Nat) (l0_4 : List (S87)) (A1 : Option Addr) (c1 : Nat) (l1 : List Int) (r : Bool) (w : World) (hr0_0 : Kd.C k48 w A0_0 l0_0.length l0_0) (hc0_0 : l0_0.length ≤ c0_0) (hr0_1 : Kd.C k62 w A0_1 l0_1.length l0_1) (hc0_1 : l0_1.length ≤ c0_1) (hr0_2 : Kd.C k84 w A0_2 l0_2.length l0_2) (hc0_2 : l0_2.length ≤ c0_2) (hr0_3 : Kd.C k42 w A0_3 l0_3.length l0_3) (hc0_3 : l0_3.length ≤ c0_3) (hr0_4 : Kd.C k87 w A0_4 l0_4.length l0_4) (hc0_4 : l0_4.length ≤ c0_4) (hr1 : Kd.C (Kd.int .u8) w A1 l1.length l1) (hc1 : l1.length ≤ c1) (h : w08_TreeSums.f k l0_0 l0_1 l0_2 l0_3 l0_4 l1 = some r) :
    Calls Try.prog 6 #[.agg #[.slice A0_0 l0_0.length c0_0, .slice A0_1 l0_1.length c0_1, .slice A0_2 l0_2.length c0_2, .slice A0_3 l0_3.length c0_3, .slice A0_4 l0_4.length c0_4], .slice A1 l1.length c1] w fun e w' => e = .returned (.bool r) ∧ Below w.heap.size w w' := by
 have hu28 := Try.underlying28
 have hu55 := Try.underlying55
 have hu42 := Try.underlying42
 have hu48 := Try.underlying48
 have HR0_0 := Aside0.mk hr0_0
 have HC0_0 := Aside0.mk hc0_0
 clear hr0_0 hc0_0
 have HR0_1 := Aside0.mk hr0_1
 have HC0_1 := Aside0.mk hc0_1
 clear hr0_1 hc0_1
 have HR0_2 := Aside0.mk hr0_2
 have HC0_2 := Aside0.mk hc0_2
 clear hr0_2 hc0_2
 have HR0_3 := Aside0.mk hr0_3
 have HC0_3 := Aside0.mk hc0_3
 clear hr0_3 hc0_3
 have HR0_4 := Aside0.mk hr0_4
 have HC0_4 := Aside0.mk hc0_4
 clear hr0_4 hc0_4
 have HR1 := Aside0.mk hr1
 have HC1 := Aside0.mk hc1
 clear hr1 hc1
 have HB := Aside0.mk (Below.refl w.heap.size w)
 have H : ((w08_head.f k).bind fun t487 => ((w08_usable.f k l0_0 l0_1 l0_2 l0_3 l0_4).bind fun t488 => (if t488 = true then ((w08_currents.f k l0_0 l0_1 l0_2 l0_3 l0_4 l1).bind fun t489 => ((w08_loads.f l0_0 l0_1 l0_2 l0_3 l0_4 t489).bind fun bt492 => (if bt492.2 = true then (w08_TreeSums.l0 k t487 t489 bt492.1 (l0_0.length : Int) 0 l0_0 l0_1 l0_2 l0_3 l0_4) else (some false)))) else (some t487)))) = some r := h
 clear h
 replace H := Option.bind_eq_some_iff.mp H
 obtain ⟨t487, A30, H⟩ := H
 replace H : ((w08_usable.f k l0_0 l0_1 l0_2 l0_3 l0_4).bind fun t488 => (if t488 = true then ((w08_currents.f k l0_0 l0_1 l0_2 l0_3 l0_4 l1).bind fun t489 => ((w08_loads.f l0_0 l0_1 l0_2 l0_3 l0_4 t489).bind fun bt492 => (if bt492.2 = true then (w08_TreeSums.l0 k t487 t489 bt492.1 (l0_0.length : Int) 0 l0_0 l0_1 l0_2 l0_3 l0_4) else (some false)))) else (some t487))) = some r := H
 have A3 := Aside0.mk A30
 clear A30
 replace H := Option.bind_eq_some_iff.mp H
 obtain ⟨t488, A40, H⟩ := H
 replace H : (if t488 = true then ((w08_currents.f k l0_0 l0_1 l0_2 l0_3 l0_4 l1).bind fun t489 => ((w08_loads.f l0_0 l0_1 l0_2 l0_3 l0_4 t489).bind fun bt492 => (if bt492.2 = true then (w08_TreeSums.l0 k t487 t489 bt492.1 (l0_0.length : Int) 0 l0_0 l0_1 l0_2 l0_3 l0_4) else (some false)))) else (some t487)) = some r := H
 have A4 := Aside0.mk A40
 clear A40
 by_cases c5 : t488 = true
 rotate_left
 ·replace c5 := Bool.eq_false_iff.mpr c5
  subst c5
  have H1 : (some t487) = some r := by rw [if_neg (show ¬ (false = true) by decide)] at H; exact H
  clear H
  have H := H1
  clear H1
  obtain rfl := Option.some.inj H
  go_enter Try.func6, Try.ntmps6
  go_wp2_with (first | ((with_reducible refine gate_dst (N := 2) rfl ?_); refine box_event ?hg (N := 2) ?hd (cs := #[.slice A0_0 l0_0.length c0_0, .slice A0_1 l0_1.length c0_1, .slice A0_2 l0_2.length c0_2, .slice A0_3 l0_3.length c0_3, .slice A0_4 l0_4.length c0_4]) (t := 28) ?hr ?_; (case hd => rfl); (case hg => rfl); (case hr => first | (go_simp; done) | (go_simp; rfl)); intro gb486 hg w122 hbox hb; have n0_ := Aside0.mk (below_step (kB HB) hb); have n1_ := Aside0.mk (hbox); have n2_ := Aside0.mk ((by rw [hg]; exact (below_size (kB HB)) : w.heap.size ≤ gb486)); have n3_ := Aside0.mk ((by rw [hg]; exact (below_size (kB HB)) : w.heap.size ≤ gb486)); clear HB; have HB := n0_; have BK486 := n1_; have GW486 := n2_; have GE486 := n3_; clear n0_ n1_ n2_ n3_; clear hb hbox hg) | ((with_reducible refine gate_callee (f := 10) rfl ?_); refine goesL_ (some 17) rfl rfl Try.func10 (by kernel_rfl) rfl #[] rfl tL ?_; (with_reducible refine (w08_head.calls k  t487 _ A3.out).mono ?_); rintro e w123 ⟨rfl, hb⟩; refine ⟨_, rfl, ?_⟩; have n0_ := Aside0.mk (blk_below (g := gb486) (o := .cells #[.slice A0_0 l0_0.length c0_0, .slice A0_1 l0_1.length c0_1, .slice A0_2 l0_2.length c0_2, .slice A0_3 l0_3.length c0_3, .slice A0_4 l0_4.length c0_4] 28 (0, 0)) (kK BK486) hb); have n1_ := Aside0.mk (below_step (kB1 HB GE486) hb); clear BK486; clear HB; have BK486 := n0_; have HB := n1_; clear n0_ n1_; obtain ⟨⟨hcz124_0, hcz124_1, hcz124_2, hcz124_3, hcz124_4⟩, hfz124_0, hfz124_1, hfz124_2, hfz124_3, hfz124_4⟩ := bx5 BK486) | ((with_reducible refine gate_callee (f := 20) rfl ?_); refine goesL_ (some 19) rfl rfl Try.func20 (by kernel_rfl) rfl #[.agg #[.slice A0_0 l0_0.length c0_0, .slice A0_1 l0_1.length c0_1, .slice A0_2 l0_2.length c0_2, .slice A0_3 l0_3.length c0_3, .slice A0_4 l0_4.length c0_4]] rfl tL ?_; (with_reducible refine (w08_usable.calls k _ _ l0_0 _ _ l0_1 _ _ l0_2 _ _ l0_3 _ _ l0_4 false _ ?side1 ?side2 ?side3 ?side4 ?side5 ?side6 ?side7 ?side8 ?side9 ?side10 A4.out).mono ?_); (case side1 => repeat (first | exact (Kd.C_below HR0_0.out HB.out) | (with_reducible refine Kd.C_alloc ?_ _) | (with_reducible refine Kd.C_drewN ?_ _) | (with_reducible refine Kd.C_drew ?_))); (case side2 => exact HC0_0.out); (case side3 => repeat (first | exact (Kd.C_below HR0_1.out HB.out) | (with_reducible refine Kd.C_alloc ?_ _) | (with_reducible refine Kd.C_drewN ?_ _) | (with_reducible refine Kd.C_drew ?_))); (case side4 => exact HC0_1.out); (case side5 => repeat (first | exact (Kd.C_below HR0_2.out HB.out) | (with_reducible refine Kd.C_alloc ?_ _) | (with_reducible refine Kd.C_drewN ?_ _) | (with_reducible refine Kd.C_drew ?_))); (case side6 => exact HC0_2.out); (case side7 => repeat (first | exact (Kd.C_below HR0_3.out HB.out) | (with_reducible refine Kd.C_alloc ?_ _) | (with_reducible refine Kd.C_drewN ?_ _) | (with_reducible refine Kd.C_drew ?_))); (case side8 => exact HC0_3.out); (case side9 => repeat (first | exact (Kd.C_below HR0_4.out HB.out) | (with_reducible refine Kd.C_alloc ?_ _) | (with_reducible refine Kd.C_drewN ?_ _) | (with_reducible refine Kd.C_drew ?_))); (case side10 => exact HC0_4.out); rintro e w125 ⟨rfl, hb⟩; refine ⟨_, rfl, ?_⟩; have n0_ := Aside0.mk (blk_below (g := gb486) (o := .cells #[.slice A0_0 l0_0.length c0_0, .slice A0_1 l0_1.length c0_1, .slice A0_2 l0_2.length c0_2, .slice A0_3 l0_3.length c0_3, .slice A0_4 l0_4.length c0_4] 28 (0, 0)) (kK BK486) hb); have n1_ := Aside0.mk (below_step (kB1 HB GE486) hb); clear BK486; clear HB; have BK486 := n0_; have HB := n1_; clear n0_ n1_))
  go_ret
  exact ⟨by first | rfl | (simp [errW_none, errW_some] <;> rfl) | (simp [*, errW_none, errW_some] <;> rfl), kB1 HB GE486⟩
 subst c5
 have H1 : ((w08_currents.f k l0_0 l0_1 l0_2 l0_3 l0_4 l1).bind fun t489 => ((w08_loads.f l0_0 l0_1 l0_2 l0_3 l0_4 t489).bind fun bt492 => (if bt492.2 = true then (w08_TreeSums.l0 k t487 t489 bt492.1 (l0_0.length : Int) 0 l0_0 l0_1 l0_2 l0_3 l0_4) else (some false)))) = some r := by rw [if_pos rfl] at H; exact H
 clear H
 have H := H1
 clear H1
 replace H := Option.bind_eq_some_iff.mp H
 obtain ⟨t489, A60, H⟩ := H
 replace H : ((w08_loads.f l0_0 l0_1 l0_2 l0_3 l0_4 t489).bind fun bt492 => (if bt492.2 = true then (w08_TreeSums.l0 k t487 t489 bt492.1 (l0_0.length : Int) 0 l0_0 l0_1 l0_2 l0_3 l0_4) else (some false))) = some r := H
 have A6 := Aside0.mk A60
 clear A60
 replace H := Option.bind_eq_some_iff.mp H
 obtain ⟨⟨t492, t495⟩, A70, H⟩ := H
 replace H : (if t495 = true then (w08_TreeSums.l0 k t487 t489 t492 (l0_0.length : Int) 0 l0_0 l0_1 l0_2 l0_3 l0_4) else (some false)) = some r := H
 have A7 := Aside0.mk A70
 clear A70
 by_cases c8 : t495 = true
 rotate_left
 ·replace c8 := Bool.eq_false_iff.mpr c8
  subst c8
  have H1 : (some false) = some r := by rw [if_neg (show ¬ (false = true) by decide)] at H; exact H
  clear H
  have H := H1
  clear H1
  obtain rfl := Option.some.inj H
  go_enter Try.func6, Try.ntmps6
  go_wp2_with (first | ((with_reducible refine gate_dst (N := 2) rfl ?_); refine box_event ?hg (N := 2) ?hd (cs := #[.slice A0_0 l0_0.length c0_0, .slice A0_1 l0_1.length c0_1, .slice A0_2 l0_2.length c0_2, .slice A0_3 l0_3.length c0_3, .slice A0_4 l0_4.length c0_4]) (t := 28) ?hr ?_; (case hd => rfl); (case hg => rfl); (case hr => first | (go_simp; done) | (go_simp; rfl)); intro gb486 hg w113 hbox hb; have n0_ := Aside0.mk (below_step (kB HB) hb); have n1_ := Aside0.mk (hbox); have n2_ := Aside0.mk ((by rw [hg]; exact (below_size (kB HB)) : w.heap.size ≤ gb486)); have n3_ := Aside0.mk ((by rw [hg]; exact (below_size (kB HB)) : w.heap.size ≤ gb486)); clear HB; have HB := n0_; have BK486 := n1_; have GW486 := n2_; have GE486 := n3_; clear n0_ n1_ n2_ n3_; clear hb hbox hg) | ((with_reducible refine gate_callee (f := 10) rfl ?_); refine goesL_ (some 17) rfl rfl Try.func10 (by kernel_rfl) rfl #[] rfl tL ?_; (with_reducible refine (w08_head.calls k  t487 _ A3.out).mono ?_); rintro e w114 ⟨rfl, hb⟩; refine ⟨_, rfl, ?_⟩; have n0_ := Aside0.mk (blk_below (g := gb486) (o := .cells #[.slice A0_0 l0_0.length c0_0, .slice A0_1 l0_1.length c0_1, .slice A0_2 l0_2.length c0_2, .slice A0_3 l0_3.length c0_3, .slice A0_4 l0_4.length c0_4] 28 (0, 0)) (kK BK486) hb); have n1_ := Aside0.mk (below_step (kB1 HB GE486) hb); clear BK486; clear HB; have BK486 := n0_; have HB := n1_; clear n0_ n1_; obtain ⟨⟨hcz115_0, hcz115_1, hcz115_2, hcz115_3, hcz115_4⟩, hfz115_0, hfz115_1, hfz115_2, hfz115_3, hfz115_4⟩ := bx5 BK486) | ((with_reducible refine gate_callee (f := 20) rfl ?_); refine goesL_ (some 19) rfl rfl Try.func20 (by kernel_rfl) rfl #[.agg #[.slice A0_0 l0_0.length c0_0, .slice A0_1 l0_1.length c0_1, .slice A0_2 l0_2.length c0_2, .slice A0_3 l0_3.length c0_3, .slice A0_4 l0_4.length c0_4]] rfl tL ?_; (with_reducible refine (w08_usable.calls k _ _ l0_0 _ _ l0_1 _ _ l0_2 _ _ l0_3 _ _ l0_4 true _ ?side1 ?side2 ?side3 ?side4 ?side5 ?side6 ?side7 ?side8 ?side9 ?side10 A4.out).mono ?_); (case side1 => repeat (first | exact (Kd.C_below HR0_0.out HB.out) | (with_reducible refine Kd.C_alloc ?_ _) | (with_reducible refine Kd.C_drewN ?_ _) | (with_reducible refine Kd.C_drew ?_))); (case side2 => exact HC0_0.out); (case side3 => repeat (first | exact (Kd.C_below HR0_1.out HB.out) | (with_reducible refine Kd.C_alloc ?_ _) | (with_reducible refine Kd.C_drewN ?_ _) | (with_reducible refine Kd.C_drew ?_))); (case side4 => exact HC0_1.out); (case side5 => repeat (first | exact (Kd.C_below HR0_2.out HB.out) | (with_reducible refine Kd.C_alloc ?_ _) | (with_reducible refine Kd.C_drewN ?_ _) | (with_reducible refine Kd.C_drew ?_))); (case side6 => exact HC0_2.out); (case side7 => repeat (first | exact (Kd.C_below HR0_3.out HB.out) | (with_reducible refine Kd.C_alloc ?_ _) | (with_reducible refine Kd.C_drewN ?_ _) | (with_reducible refine Kd.C_drew ?_))); (case side8 => exact HC0_3.out); (case side9 => repeat (first | exact (Kd.C_below HR0_4.out HB.out) | (with_reducible refine Kd.C_alloc ?_ _) | (with_reducible refine Kd.C_drewN ?_ _) | (with_reducible refine Kd.C_drew ?_))); (case side10 => exact HC0_4.out); rintro e w116 ⟨rfl, hb⟩; refine ⟨_, rfl, ?_⟩; have n0_ := Aside0.mk (blk_below (g := gb486) (o := .cells #[.slice A0_0 l0_0.length c0_0, .slice A0_1 l0_1.length c0_1, .slice A0_2 l0_2.length c0_2, .slice A0_3 l0_3.length c0_3, .slice A0_4 l0_4.length c0_4] 28 (0, 0)) (kK BK486) hb); have n1_ := Aside0.mk (below_step (kB1 HB GE486) hb); clear BK486; clear HB; have BK486 := n0_; have HB := n1_; clear n0_ n1_; obtain ⟨⟨hcz117_0, hcz117_1, hcz117_2, hcz117_3, hcz117_4⟩, hfz117_0, hfz117_1, hfz117_2, hfz117_3, hfz117_4⟩ := bx5 BK486) | ((with_reducible refine gate_callee (f := 22) rfl ?_); refine goesL_ (some 24) rfl rfl Try.func22 (by kernel_rfl) rfl #[.agg #[.slice A0_0 l0_0.length c0_0, .slice A0_1 l0_1.length c0_1, .slice A0_2 l0_2.length c0_2, .slice A0_3 l0_3.length c0_3, .slice A0_4 l0_4.length c0_4], .slice A1 l1.length c1] rfl tL ?_; (with_reducible refine (w08_currents.calls k _ _ l0_0 _ _ l0_1 _ _ l0_2 _ _ l0_3 _ _ l0_4 _ _ l1 t489 _ ?side1 ?side2 ?side3 ?side4 ?side5 ?side6 ?side7 ?side8 ?side9 ?side10 ?side11 ?side12 A6.out).mono ?_); (case side1 => repeat (first | exact (Kd.C_below HR0_0.out HB.out) | (with_reducible refine Kd.C_alloc ?_ _) | (with_reducible refine Kd.C_drewN ?_ _) | (with_reducible refine Kd.C_drew ?_))); (case side2 => exact HC0_0.out); (case side3 => repeat (first | exact (Kd.C_below HR0_1.out HB.out) | (with_reducible refine Kd.C_alloc ?_ _) | (with_reducible refine Kd.C_drewN ?_ _) | (with_reducible refine Kd.C_drew ?_))); (case side4 => exact HC0_1.out); (case side5 => repeat (first | exact (Kd.C_below HR0_2.out HB.out) | (with_reducible refine Kd.C_alloc ?_ _) | (with_reducible refine Kd.C_drewN ?_ _) | (with_reducible refine Kd.C_drew ?_))); (case side6 => exact HC0_2.out); (case side7 => repeat (first | exact (Kd.C_below HR0_3.out HB.out) | (with_reducible refine Kd.C_alloc ?_ _) | (with_reducible refine Kd.C_drewN ?_ _) | (with_reducible refine Kd.C_drew ?_))); (case side8 => exact HC0_3.out); (case side9 => repeat (first | exact (Kd.C_below HR0_4.out HB.out) | (with_reducible refine Kd.C_alloc ?_ _) | (with_reducible refine Kd.C_drewN ?_ _) | (with_reducible refine Kd.C_drew ?_))); (case side10 => exact HC0_4.out); (case side11 => repeat (first | exact (Kd.C_below HR1.out HB.out) | (with_reducible refine Kd.C_alloc ?_ _) | (with_reducible refine Kd.C_drewN ?_ _) | (with_reducible refine Kd.C_drew ?_))); (case side12 => exact HC1.out); rintro e w118 ⟨v490, rfl, ho0, hb⟩; refine ⟨_, rfl, ?_⟩; have n0_ := Aside0.mk (Kd.R_lower ho0 (below_size (kB1 HB GE486))); have n1_ := Aside0.mk (blk_below (g := gb486) (o := .cells #[.slice A0_0 l0_0.length c0_0, .slice A0_1 l0_1.length c0_1, .slice A0_2 l0_2.length c0_2, .slice A0_3 l0_3.length c0_3, .slice A0_4 l0_4.length c0_4] 28 (0, 0)) (kK BK486) hb); have n2_ := Aside0.mk (below_step (kB1 HB GE486) hb); clear BK486; clear HB; have HO491 := n0_; have BK486 := n1_; have HB := n2_; clear n0_ n1_ n2_; obtain ⟨⟨hcz119_0, hcz119_1, hcz119_2, hcz119_3, hcz119_4⟩, hfz119_0, hfz119_1, hfz119_2, hfz119_3, hfz119_4⟩ := bx5 BK486; obtain ⟨Ao120, co120, eo120⟩ := Kd.R_slice HO491.out; subst eo120) | ((with_reducible refine gate_callee (f := 23) rfl ?_); refine goesL_ (some 28) rfl rfl Try.func23 (by kernel_rfl) rfl #[.agg #[.slice A0_0 l0_0.length c0_0, .slice A0_1 l0_1.length c0_1, .slice A0_2 l0_2.length c0_2, .slice A0_3 l0_3.length c0_3, .slice A0_4 l0_4.length c0_4], .slice Ao120 t489.length co120] rfl tL ?_; (with_reducible refine (w08_loads.calls _ _ l0_0 _ _ l0_1 _ _ l0_2 _ _ l0_3 _ _ l0_4 _ _ t489 t492 false _ ?side1 ?side2 ?side3 ?side4 ?side5 ?side6 ?side7 ?side8 ?side9 ?side10 ?side11 ?side12 A7.out).mono ?_); (case side1 => repeat (first | exact (Kd.C_below HR0_0.out HB.out) | (with_reducible refine Kd.C_alloc ?_ _) | (with_reducible refine Kd.C_drewN ?_ _) | (with_reducible refine Kd.C_drew ?_))); (case side2 => exact HC0_0.out); (case side3 => repeat (first | exact (Kd.C_below HR0_1.out HB.out) | (with_reducible refine Kd.C_alloc ?_ _) | (with_reducible refine Kd.C_drewN ?_ _) | (with_reducible refine Kd.C_drew ?_))); (case side4 => exact HC0_1.out); (case side5 => repeat (first | exact (Kd.C_below HR0_2.out HB.out) | (with_reducible refine Kd.C_alloc ?_ _) | (with_reducible refine Kd.C_drewN ?_ _) | (with_reducible refine Kd.C_drew ?_))); (case side6 => exact HC0_2.out); (case side7 => repeat (first | exact (Kd.C_below HR0_3.out HB.out) | (with_reducible refine Kd.C_alloc ?_ _) | (with_reducible refine Kd.C_drewN ?_ _) | (with_reducible refine Kd.C_drew ?_))); (case side8 => exact HC0_3.out); (case side9 => repeat (first | exact (Kd.C_below HR0_4.out HB.out) | (with_reducible refine Kd.C_alloc ?_ _) | (with_reducible refine Kd.C_drewN ?_ _) | (with_reducible refine Kd.C_drew ?_))); (case side10 => exact HC0_4.out); (case side11 => exact kC (Kd.R_reads' HO491.out).2.2); (case side12 => exact (Kd.R_reads' HO491.out).2.1); rintro e w121 ⟨v493, rfl, ho0, hb⟩; refine ⟨_, rfl, ?_⟩; have n0_ := Aside0.mk (Kd.R_below (kR HO491) hb); have n1_ := Aside0.mk (Kd.R_lower ho0 (below_size (kB1 HB GE486))); have n2_ := Aside0.mk (blk_below (g := gb486) (o := .cells #[.slice A0_0 l0_0.length c0_0, .slice A0_1 l0_1.length c0_1, .slice A0_2 l0_2.length c0_2, .slice A0_3 l0_3.length c0_3, .slice A0_4 l0_4.length c0_4] 28 (0, 0)) (kK BK486) hb); have n3_ := Aside0.mk (below_step (kB1 HB GE486) hb); clear HO491; clear BK486; clear HB; have HO491 := n0_; have HO494 := n1_; have BK486 := n2_; have HB := n3_; clear n0_ n1_ n2_ n3_))
  go_ret
  exact ⟨by first | rfl | (simp [errW_none, errW_some] <;> rfl) | (simp [*, errW_none, errW_some] <;> rfl), kB1 HB GE486⟩
 subst c8
 have H1 : (w08_TreeSums.l0 k t487 t489 t492 (l0_0.length : Int) 0 l0_0 l0_1 l0_2 l0_3 l0_4) = some r := by rw [if_pos rfl] at H; exact H
 clear H
 have H := H1
 clear H1
 have H' := Aside0.mk H
 clear H
 go_enter Try.func6, Try.ntmps6
 go_wp2_with (first | ((with_reducible refine gate_dst (N := 2) rfl ?_); refine box_event ?hg (N := 2) ?hd (cs := #[.slice A0_0 l0_0.length c0_0, .slice A0_1 l0_1.length c0_1, .slice A0_2 l0_2.length c0_2, .slice A0_3 l0_3.length c0_3, .slice A0_4 l0_4.length c0_4]) (t := 28) ?hr ?_; (case hd => rfl); (case hg => rfl); (case hr => first | (go_simp; done) | (go_simp; rfl)); intro gb486 hg w9 hbox hb; have n0_ := Aside0.mk (below_step (kB HB) hb); have n1_ := Aside0.mk (hbox); have n2_ := Aside0.mk ((by rw [hg]; exact (below_size (kB HB)) : w.heap.size ≤ gb486)); have n3_ := Aside0.mk ((by rw [hg]; exact (below_size (kB HB)) : w.heap.size ≤ gb486)); clear HB; have HB := n0_; have BK486 := n1_; have GW486 := n2_; have GE486 := n3_; clear n0_ n1_ n2_ n3_; clear hb hbox hg) | ((with_reducible refine gate_callee (f := 10) rfl ?_); refine goesL_ (some 17) rfl rfl Try.func10 (by kernel_rfl) rfl #[] rfl tL ?_; (with_reducible refine (w08_head.calls k  t487 _ A3.out).mono ?_); rintro e w10 ⟨rfl, hb⟩; refine ⟨_, rfl, ?_⟩; have n0_ := Aside0.mk (blk_below (g := gb486) (o := .cells #[.slice A0_0 l0_0.length c0_0, .slice A0_1 l0_1.length c0_1, .slice A0_2 l0_2.length c0_2, .slice A0_3 l0_3.length c0_3, .slice A0_4 l0_4.length c0_4] 28 (0, 0)) (kK BK486) hb); have n1_ := Aside0.mk (below_step (kB1 HB GE486) hb); clear BK486; clear HB; have BK486 := n0_; have HB := n1_; clear n0_ n1_; obtain ⟨⟨hcz11_0, hcz11_1, hcz11_2, hcz11_3, hcz11_4⟩, hfz11_0, hfz11_1, hfz11_2, hfz11_3, hfz11_4⟩ := bx5 BK486) | ((with_reducible refine gate_callee (f := 20) rfl ?_); refine goesL_ (some 19) rfl rfl Try.func20 (by kernel_rfl) rfl #[.agg #[.slice A0_0 l0_0.length c0_0, .slice A0_1 l0_1.length c0_1, .slice A0_2 l0_2.length c0_2, .slice A0_3 l0_3.length c0_3, .slice A0_4 l0_4.length c0_4]] rfl tL ?_; (with_reducible refine (w08_usable.calls k _ _ l0_0 _ _ l0_1 _ _ l0_2 _ _ l0_3 _ _ l0_4 true _ ?side1 ?side2 ?side3 ?side4 ?side5 ?side6 ?side7 ?side8 ?side9 ?side10 A4.out).mono ?_); (case side1 => repeat (first | exact (Kd.C_below HR0_0.out HB.out) | (with_reducible refine Kd.C_alloc ?_ _) | (with_reducible refine Kd.C_drewN ?_ _) | (with_reducible refine Kd.C_drew ?_))); (case side2 => exact HC0_0.out); (case side3 => repeat (first | exact (Kd.C_below HR0_1.out HB.out) | (with_reducible refine Kd.C_alloc ?_ _) | (with_reducible refine Kd.C_drewN ?_ _) | (with_reducible refine Kd.C_drew ?_))); (case side4 => exact HC0_1.out); (case side5 => repeat (first | exact (Kd.C_below HR0_2.out HB.out) | (with_reducible refine Kd.C_alloc ?_ _) | (with_reducible refine Kd.C_drewN ?_ _) | (with_reducible refine Kd.C_drew ?_))); (case side6 => exact HC0_2.out); (case side7 => repeat (first | exact (Kd.C_below HR0_3.out HB.out) | (with_reducible refine Kd.C_alloc ?_ _) | (with_reducible refine Kd.C_drewN ?_ _) | (with_reducible refine Kd.C_drew ?_))); (case side8 => exact HC0_3.out); (case side9 => repeat (first | exact (Kd.C_below HR0_4.out HB.out) | (with_reducible refine Kd.C_alloc ?_ _) | (with_reducible refine Kd.C_drewN ?_ _) | (with_reducible refine Kd.C_drew ?_))); (case side10 => exact HC0_4.out); rintro e w12 ⟨rfl, hb⟩; refine ⟨_, rfl, ?_⟩; have n0_ := Aside0.mk (blk_below (g := gb486) (o := .cells #[.slice A0_0 l0_0.length c0_0, .slice A0_1 l0_1.length c0_1, .slice A0_2 l0_2.length c0_2, .slice A0_3 l0_3.length c0_3, .slice A0_4 l0_4.length c0_4] 28 (0, 0)) (kK BK486) hb); have n1_ := Aside0.mk (below_step (kB1 HB GE486) hb); clear BK486; clear HB; have BK486 := n0_; have HB := n1_; clear n0_ n1_; obtain ⟨⟨hcz13_0, hcz13_1, hcz13_2, hcz13_3, hcz13_4⟩, hfz13_0, hfz13_1, hfz13_2, hfz13_3, hfz13_4⟩ := bx5 BK486) | ((with_reducible refine gate_callee (f := 22) rfl ?_); refine goesL_ (some 24) rfl rfl Try.func22 (by kernel_rfl) rfl #[.agg #[.slice A0_0 l0_0.length c0_0, .slice A0_1 l0_1.length c0_1, .slice A0_2 l0_2.length c0_2, .slice A0_3 l0_3.length c0_3, .slice A0_4 l0_4.length c0_4], .slice A1 l1.length c1] rfl tL ?_; (with_reducible refine (w08_currents.calls k _ _ l0_0 _ _ l0_1 _ _ l0_2 _ _ l0_3 _ _ l0_4 _ _ l1 t489 _ ?side1 ?side2 ?side3 ?side4 ?side5 ?side6 ?side7 ?side8 ?side9 ?side10 ?side11 ?side12 A6.out).mono ?_); (case side1 => repeat (first | exact (Kd.C_below HR0_0.out HB.out) | (with_reducible refine Kd.C_alloc ?_ _) | (with_reducible refine Kd.C_drewN ?_ _) | (with_reducible refine Kd.C_drew ?_))); (case side2 => exact HC0_0.out); (case side3 => repeat (first | exact (Kd.C_below HR0_1.out HB.out) | (with_reducible refine Kd.C_alloc ?_ _) | (with_reducible refine Kd.C_drewN ?_ _) | (with_reducible refine Kd.C_drew ?_))); (case side4 => exact HC0_1.out); (case side5 => repeat (first | exact (Kd.C_below HR0_2.out HB.out) | (with_reducible refine Kd.C_alloc ?_ _) | (with_reducible refine Kd.C_drewN ?_ _) | (with_reducible refine Kd.C_drew ?_))); (case side6 => exact HC0_2.out); (case side7 => repeat (first | exact (Kd.C_below HR0_3.out HB.out) | (with_reducible refine Kd.C_alloc ?_ _) | (with_reducible refine Kd.C_drewN ?_ _) | (with_reducible refine Kd.C_drew ?_))); (case side8 => exact HC0_3.out); (case side9 => repeat (first | exact (Kd.C_below HR0_4.out HB.out) | (with_reducible refine Kd.C_alloc ?_ _) | (with_reducible refine Kd.C_drewN ?_ _) | (with_reducible refine Kd.C_drew ?_))); (case side10 => exact HC0_4.out); (case side11 => repeat (first | exact (Kd.C_below HR1.out HB.out) | (with_reducible refine Kd.C_alloc ?_ _) | (with_reducible refine Kd.C_drewN ?_ _) | (with_reducible refine Kd.C_drew ?_))); (case side12 => exact HC1.out); rintro e w14 ⟨v490, rfl, ho0, hb⟩; refine ⟨_, rfl, ?_⟩; have n0_ := Aside0.mk (Kd.R_lower ho0 (below_size (kB1 HB GE486))); have n1_ := Aside0.mk (blk_below (g := gb486) (o := .cells #[.slice A0_0 l0_0.length c0_0, .slice A0_1 l0_1.length c0_1, .slice A0_2 l0_2.length c0_2, .slice A0_3 l0_3.length c0_3, .slice A0_4 l0_4.length c0_4] 28 (0, 0)) (kK BK486) hb); have n2_ := Aside0.mk (below_step (kB1 HB GE486) hb); clear BK486; clear HB; have HO491 := n0_; have BK486 := n1_; have HB := n2_; clear n0_ n1_ n2_; obtain ⟨⟨hcz15_0, hcz15_1, hcz15_2, hcz15_3, hcz15_4⟩, hfz15_0, hfz15_1, hfz15_2, hfz15_3, hfz15_4⟩ := bx5 BK486; obtain ⟨Ao16, co16, eo16⟩ := Kd.R_slice HO491.out; subst eo16) | ((with_reducible refine gate_callee (f := 23) rfl ?_); refine goesL_ (some 28) rfl rfl Try.func23 (by kernel_rfl) rfl #[.agg #[.slice A0_0 l0_0.length c0_0, .slice A0_1 l0_1.length c0_1, .slice A0_2 l0_2.length c0_2, .slice A0_3 l0_3.length c0_3, .slice A0_4 l0_4.length c0_4], .slice Ao16 t489.length co16] rfl tL ?_; (with_reducible refine (w08_loads.calls _ _ l0_0 _ _ l0_1 _ _ l0_2 _ _ l0_3 _ _ l0_4 _ _ t489 t492 true _ ?side1 ?side2 ?side3 ?side4 ?side5 ?side6 ?side7 ?side8 ?side9 ?side10 ?side11 ?side12 A7.out).mono ?_); (case side1 => repeat (first | exact (Kd.C_below HR0_0.out HB.out) | (with_reducible refine Kd.C_alloc ?_ _) | (with_reducible refine Kd.C_drewN ?_ _) | (with_reducible refine Kd.C_drew ?_))); (case side2 => exact HC0_0.out); (case side3 => repeat (first | exact (Kd.C_below HR0_1.out HB.out) | (with_reducible refine Kd.C_alloc ?_ _) | (with_reducible refine Kd.C_drewN ?_ _) | (with_reducible refine Kd.C_drew ?_))); (case side4 => exact HC0_1.out); (case side5 => repeat (first | exact (Kd.C_below HR0_2.out HB.out) | (with_reducible refine Kd.C_alloc ?_ _) | (with_reducible refine Kd.C_drewN ?_ _) | (with_reducible refine Kd.C_drew ?_))); (case side6 => exact HC0_2.out); (case side7 => repeat (first | exact (Kd.C_below HR0_3.out HB.out) | (with_reducible refine Kd.C_alloc ?_ _) | (with_reducible refine Kd.C_drewN ?_ _) | (with_reducible refine Kd.C_drew ?_))); (case side8 => exact HC0_3.out); (case side9 => repeat (first | exact (Kd.C_below HR0_4.out HB.out) | (with_reducible refine Kd.C_alloc ?_ _) | (with_reducible refine Kd.C_drewN ?_ _) | (with_reducible refine Kd.C_drew ?_))); (case side10 => exact HC0_4.out); (case side11 => exact kC (Kd.R_reads' HO491.out).2.2); (case side12 => exact (Kd.R_reads' HO491.out).2.1); rintro e w17 ⟨v493, rfl, ho0, hb⟩; refine ⟨_, rfl, ?_⟩; have n0_ := Aside0.mk (Kd.R_below (kR HO491) hb); have n1_ := Aside0.mk (Kd.R_lower ho0 (below_size (kB1 HB GE486))); have n2_ := Aside0.mk (blk_below (g := gb486) (o := .cells #[.slice A0_0 l0_0.length c0_0, .slice A0_1 l0_1.length c0_1, .slice A0_2 l0_2.length c0_2, .slice A0_3 l0_3.length c0_3, .slice A0_4 l0_4.length c0_4] 28 (0, 0)) (kK BK486) hb); have n3_ := Aside0.mk (below_step (kB1 HB GE486) hb); clear HO491; clear BK486; clear HB; have HO491 := n0_; have HO494 := n1_; have BK486 := n2_; have HB := n3_; clear n0_ n1_ n2_ n3_; obtain ⟨⟨hcz18_0, hcz18_1, hcz18_2, hcz18_3, hcz18_4⟩, hfz18_0, hfz18_1, hfz18_2, hfz18_3, hfz18_4⟩ := bx5 BK486))
 go_loopg [36] k (fun kq v36 w' => ∃ (x36_1 : Int), v36 = .int .i64 x36_1 ∧ Aside0 (w08_TreeSums.l0 kq t487 t489 t492 (l0_0.length : Int) x36_1 l0_0 l0_1 l0_2 l0_3 l0_4 = some r) ∧ Aside0 (kq ≤ k) ∧ Aside0 (Kd.R (Kd.int .i64) 3 w' w.heap.size (fun _ => True) (.slice Ao16 t489.length co16) t489) ∧ Aside0 (Kd.R k55 55 w' w.heap.size (fun _ => True) v493 t492) ∧ Aside0 (w'.heap[gb486]? = some (.cells #[(.slice A0_0 l0_0.length c0_0), (.slice A0_1 l0_1.length c0_1), (.slice A0_2 l0_2.length c0_2), (.slice A0_3 l0_3.length c0_3), (.slice A0_4 l0_4.length c0_4)] 28 (0, 0))) ∧ Aside0 (Below w.heap.size w w'))
 case atStart => exact ⟨(0), tQ, H', ⟨Nat.le_refl _⟩, ⟨kR HO491⟩, ⟨kR HO494⟩, ⟨kK BK486⟩, ⟨kB1 HB GE486⟩⟩
 case round =>
  clear H'
  obtain ⟨x36_1, rfl, HA, HK1, HO_6, HO_7, BK486, HB⟩ := hrel
  cases gk with
  | zero => exact absurd HA.out (by simp [w08_TreeSums.l0])
  | succ k1 =>
   have H := HA.out
   clear HA
   simp only [w08_TreeSums.l0] at H
   by_cases c19 : x36_1 < (l0_0.length : Int)
   rotate_left
   ·rw [if_neg c19] at H
    have c19b0 : decide (x36_1 < (l0_0.length : Int)) = false := decide_eq_false c19
    clear c19
    obtain rfl := Option.some.inj H
    go_wp2
    go_ret
    exact ⟨by first | rfl | (simp [errW_none, errW_some] <;> rfl) | (simp [*, errW_none, errW_some] <;> rfl), kB1 HB GE486⟩
   rw [if_pos c19] at H
   have c19b0 : decide (x36_1 < (l0_0.length : Int)) = true := decide_eq_true c19
   clear c19
   have H' := Aside0.mk H
   clear H
   go_wp2_with (first | ((with_reducible refine gate_dst (N := 10) rfl ?_); refine box_event ?hg (N := 10) ?hd (cs := #[.int .i64 0, .int .i64 0, .int .i64 0]) (t := 55) ?hr ?_; (case hd => rfl); (case hg => rfl); (case hr => first | (go_simp; done) | (go_simp; rfl)); intro gb496 hg w20 hbox hb; have n0_ := Aside0.mk (Kd.R_below (kR HO_6) hb); have n1_ := Aside0.mk (Kd.R_below (Kd.R_elderB (kR HO_7) gb496 (Nat.le_of_eq hg.symm)) hb); have n2_ := Aside0.mk (blk_below (g := gb486) (o := .cells #[.slice A0_0 l0_0.length c0_0, .slice A0_1 l0_1.length c0_1, .slice A0_2 l0_2.length c0_2, .slice A0_3 l0_3.length c0_3, .slice A0_4 l0_4.length c0_4] 28 (0, 0)) (kK BK486) hb); have n3_ := Aside0.mk (below_step (kB1 HB GE486) hb); have n4_ := Aside0.mk (hbox); have n5_ := Aside0.mk ((by rw [hg]; exact (below_size (kB1 HB GE486)) : w.heap.size ≤ gb496)); have n6_ := Aside0.mk ((by rw [hg]; exact (below_size (kB1 HB GE486)) : w.heap.size ≤ gb496)); have n7_ := Aside0.mk ((by rw [hg]; exact Nat.ne_of_lt (blk_lt (g := gb486) (o := .cells #[.slice A0_0 l0_0.length c0_0, .slice A0_1 l0_1.length c0_1, .slice A0_2 l0_2.length c0_2, .slice A0_3 l0_3.length c0_3, .slice A0_4 l0_4.length c0_4] 28 (0, 0)) (kK BK486)) : gb486 ≠ gb496)); have n8_ := Aside0.mk ((by rw [hg]; exact Nat.ne_of_gt (blk_lt (g := gb486) (o := .cells #[.slice A0_0 l0_0.length c0_0, .slice A0_1 l0_1.length c0_1, .slice A0_2 l0_2.length c0_2, .slice A0_3 l0_3.length c0_3, .slice A0_4 l0_4.length c0_4] 28 (0, 0)) (kK BK486)) : gb496 ≠ gb486)); clear HO_6; clear HO_7; clear BK486; clear HB; have HO_6 := n0_; have HO_7 := n1_; have BK486 := n2_; have HB := n3_; have BK496 := n4_; have GW496 := n5_; have GE496 := n6_; have NB486_496 := n7_; have NB496_486 := n8_; clear n0_ n1_ n2_ n3_ n4_ n5_ n6_ n7_ n8_; clear hb hbox hg; have hnb21 := NB486_496.out; have hnc21 := NB496_486.out; obtain ⟨⟨hcz22_0, hcz22_1, hcz22_2, hcz22_3, hcz22_4⟩, hfz22_0, hfz22_1, hfz22_2, hfz22_3, hfz22_4⟩ := bx5 BK486))
   go_loopg [42] k1 (fun kq v42 w' => ∃ (x42_2 : Int) (x497000_2 : Int) (x497001_2 : Int) (x497002_2 : Int), v42 = .int .i64 x42_2 ∧ Aside0 (w08_TreeSums.l1 kq t487 t489 t492 x36_1 (l0_0.length : Int) x36_1 l0_3 (l0_3.length : Int) x42_2 l0_0 l0_1 l0_2 l0_3 l0_4 x497000_2 x497001_2 x497002_2 = some r) ∧ Aside0 (kq ≤ k1) ∧ Aside0 (Kd.R (Kd.int .i64) 3 w' w.heap.size (fun _ => True) (.slice Ao16 t489.length co16) t489) ∧ Aside0 (Kd.R k55 55 w' w.heap.size (fun k_ => k_ ≠ gb496) v493 t492) ∧ Aside0 (w'.heap[gb486]? = some (.cells #[(.slice A0_0 l0_0.length c0_0), (.slice A0_1 l0_1.length c0_1), (.slice A0_2 l0_2.length c0_2), (.slice A0_3 l0_3.length c0_3), (.slice A0_4 l0_4.length c0_4)] 28 (0, 0))) ∧ Aside0 (w'.heap[gb496]? = some (.cells #[.int .i64 x497000_2, .int .i64 x497001_2, .int .i64 x497002_2] 55 (0, 0))) ∧ Aside0 (Below w.heap.size w w'))
   case atStart => exact ⟨(0), (0), (0), (0), tQ, H', ⟨Nat.le_refl _⟩, ⟨kR HO_6⟩, ⟨by (with_reducible repeat (first | apply Kd.R_alloc | apply Kd.R_drewN | apply Kd.R_drew)); exact Kd.R_mono HO_7.out (fun _ hk => hk.2)⟩, ⟨kK BK486⟩, ⟨kK BK496⟩, ⟨kB2 HB GE486 GE496⟩⟩
   case round =>
    clear H'
    obtain ⟨x42_2, x497000_2, x497001_2, x497002_2, rfl, HA, HK2, HO_6, HO_7, BK486, BK496, HB⟩ := hrel
    cases gk with
    | zero => exact absurd HA.out (by simp [w08_TreeSums.l1])
    | succ k2 =>
     have H := HA.out
     clear HA
     simp only [w08_TreeSums.l1] at H
     by_cases c23 : x42_2 < (l0_3.length : Int)
     ·rw [if_pos c23] at H
      have c23b0 : decide (x42_2 < (l0_3.length : Int)) = true := decide_eq_true c23
      clear c23
      by_cases c24 : 0 ≤ x42_2
      rotate_left
      ·rw [if_neg c24] at H
       exact absurd H (by simp)
      rw [if_pos c24] at H
      have c24b0 : decide (0 ≤ x42_2) = true := decide_eq_true c24
      clear c24
      by_cases c25 : x42_2 < (l0_3.length : Int)
      rotate_left
      ·rw [if_neg c25] at H
       exact absurd H (by simp)
      rw [if_pos c25] at H
      have c25b0 : decide (x42_2 < (l0_3.length : Int)) = true := decide_eq_true c25
      clear c25
      have H' := Aside0.mk H
      clear H
      have p497 : 0 ≤ (x42_2 : Int) := tD
      have q497 : x42_2 < (l0_3.length : Int) := tD
      obtain ⟨ad497, e497, hx497_0, hx497_1, hx497_2, hx497_3, hx497_4, hx497_5, hx497_6, hx497_7⟩ := at_T42 HR0_3.out x42_2 p497 q497
      cases e497
      replace hx497_0 := cB HB hx497_0
      replace hx497_1 := cB HB hx497_1
      replace hx497_2 := cB HB hx497_2
      replace hx497_3 := cB HB hx497_3
      replace hx497_4 := cB HB hx497_4
      replace hx497_5 := cB HB hx497_5
      replace hx497_6 := cB HB hx497_6
      replace hx497_7 := cB HB hx497_7
      replace p497 := eq_true p497
      replace q497 := eq_true q497
      go_wp2_with (first | ((with_reducible refine gate_dst (N := 12) rfl ?_); refine box_event ?hg (N := 12) ?hd (cs := #[.string (⟨#[]⟩ : ByteArray), .int .i64 0, .int .i64 0, .int .i64 0, .int .i64 0, .int .i64 0, .int .i64 0, .int .i64 0]) (t := 42) ?hr ?_; (case hd => rfl); (case hg => rfl); (case hr => first | (go_simp; done) | (go_simp; rfl)); intro gb498 hg w26 hbox hb; have n0_ := Aside0.mk (Kd.R_below (kR HO_6) hb); have n1_ := Aside0.mk (Kd.R_below (kR HO_7) hb); have n2_ := Aside0.mk (blk_below (g := gb486) (o := .cells #[.slice A0_0 l0_0.length c0_0, .slice A0_1 l0_1.length c0_1, .slice A0_2 l0_2.length c0_2, .slice (some ad497) l0_3.length c0_3, .slice A0_4 l0_4.length c0_4] 28 (0, 0)) (kK BK486) hb); have n3_ := Aside0.mk (blk_below (g := gb496) (o := .cells #[.int .i64 x497000_2, .int .i64 x497001_2, .int .i64 x497002_2] 55 (0, 0)) (kK BK496) hb); have n4_ := Aside0.mk (below_step (kB2 HB GE486 GE496) hb); have n5_ := Aside0.mk (hbox); have n6_ := Aside0.mk ((by rw [hg]; exact (below_size (kB2 HB GE486 GE496)) : w.heap.size ≤ gb498)); have n7_ := Aside0.mk ((by rw [hg]; exact (below_size (kB2 HB GE486 GE496)) : w.heap.size ≤ gb498)); have n8_ := Aside0.mk ((by rw [hg]; exact Nat.ne_of_lt (blk_lt (g := gb486) (o := .cells #[.slice A0_0 l0_0.length c0_0, .slice A0_1 l0_1.length c0_1, .slice A0_2 l0_2.length c0_2, .slice (some ad497) l0_3.length c0_3, .slice A0_4 l0_4.length c0_4] 28 (0, 0)) (kK BK486)) : gb486 ≠ gb498)); have n9_ := Aside0.mk ((by rw [hg]; exact Nat.ne_of_gt (blk_lt (g := gb486) (o := .cells #[.slice A0_0 l0_0.length c0_0, .slice A0_1 l0_1.length c0_1, .slice A0_2 l0_2.length c0_2, .slice (some ad497) l0_3.length c0_3, .slice A0_4 l0_4.length c0_4] 28 (0, 0)) (kK BK486)) : gb498 ≠ gb486)); have n10_ := Aside0.mk ((by rw [hg]; exact Nat.ne_of_lt (blk_lt (g := gb496) (o := .cells #[.int .i64 x497000_2, .int .i64 x497001_2, .int .i64 x497002_2] 55 (0, 0)) (kK BK496)) : gb496 ≠ gb498)); have n11_ := Aside0.mk ((by rw [hg]; exact Nat.ne_of_gt (blk_lt (g := gb496) (o := .cells #[.int .i64 x497000_2, .int .i64 x497001_2, .int .i64 x497002_2] 55 (0, 0)) (kK BK496)) : gb498 ≠ gb496)); clear HO_6; clear HO_7; clear BK486; clear BK496; clear HB; have HO_6 := n0_; have HO_7 := n1_; have BK486 := n2_; have BK496 := n3_; have HB := n4_; have BK498 := n5_; have GW498 := n6_; have GE498 := n7_; have NB486_498 := n8_; have NB498_486 := n9_; have NB496_498 := n10_; have NB498_496 := n11_; clear n0_ n1_ n2_ n3_ n4_ n5_ n6_ n7_ n8_ n9_ n10_ n11_; clear hb hbox hg; have hnb27 := NB498_486.out; have hnc27 := NB486_498.out; have hnb28 := NB498_496.out; have hnc28 := NB496_498.out; obtain ⟨⟨hcz29_0, hcz29_1, hcz29_2, hcz29_3, hcz29_4, hcz29_5, hcz29_6, hcz29_7⟩, hfz29_0, hfz29_1, hfz29_2, hfz29_3, hfz29_4, hfz29_5, hfz29_6, hfz29_7⟩ := bx8 BK498))
      go_loopg [47] k2 (fun kq v47 w' => ∃ (x47_3 : Int) (x497000_3 : Int) (x497001_3 : Int) (x497002_3 : Int), v47 = .int .i64 x47_3 ∧ Aside0 (w08_TreeSums.l2 kq t487 t489 t492 x36_1 x42_2 (l0_0.length : Int) x36_1 l0_3 (l0_3.length : Int) x42_2 x47_3 l0_0 l0_1 l0_2 l0_3 l0_4 x497000_3 x497001_3 x497002_3 ((rd_T42 l0_3 x42_2).f0) ((rd_T42 l0_3 x42_2).f1) ((rd_T42 l0_3 x42_2).f2) ((rd_T42 l0_3 x42_2).f3) ((rd_T42 l0_3 x42_2).f4) ((rd_T42 l0_3 x42_2).f5) ((rd_T42 l0_3 x42_2).f6) ((rd_T42 l0_3 x42_2).f7) = some r) ∧ Aside0 (kq ≤ k2) ∧ Aside0 (Kd.R (Kd.int .i64) 3 w' w.heap.size (fun _ => True) (.slice Ao16 t489.length co16) t489) ∧ Aside0 (Kd.R k55 55 w' w.heap.size (fun k_ => k_ ≠ gb496) v493 t492) ∧ Aside0 (w'.heap[gb486]? = some (.cells #[(.slice A0_0 l0_0.length c0_0), (.slice A0_1 l0_1.length c0_1), (.slice A0_2 l0_2.length c0_2), (.slice (some ad497) l0_3.length c0_3), (.slice A0_4 l0_4.length c0_4)] 28 (0, 0))) ∧ Aside0 (w'.heap[gb496]? = some (.cells #[.int .i64 x497000_3, .int .i64 x497001_3, .int .i64 x497002_3] 55 (0, 0))) ∧ Aside0 (w'.heap[gb498]? = some (.cells #[.string ((rd_T42 l0_3 x42_2).f0), .int .i64 ((rd_T42 l0_3 x42_2).f1), .int .i64 ((rd_T42 l0_3 x42_2).f2), .int .i64 ((rd_T42 l0_3 x42_2).f3), .int .i64 ((rd_T42 l0_3 x42_2).f4), .int .i64 ((rd_T42 l0_3 x42_2).f5), .int .i64 ((rd_T42 l0_3 x42_2).f6), .int .i64 ((rd_T42 l0_3 x42_2).f7)] 42 (0, 0))) ∧ Aside0 (Below w.heap.size w w'))
      case atStart => exact ⟨(0), (x497000_2), (x497001_2), (x497002_2), tQ, H', ⟨Nat.le_refl _⟩, ⟨by (with_reducible repeat (first | apply Kd.R_alloc | apply Kd.R_drewN | apply Kd.R_drew)); exact Kd.R_mono (Kd.R_far (p := ⟨gb498, 7, none⟩) (Kd.R_far (p := ⟨gb498, 6, none⟩) (Kd.R_far (p := ⟨gb498, 5, none⟩) (Kd.R_far (p := ⟨gb498, 4, none⟩) (Kd.R_far (p := ⟨gb498, 3, none⟩) (Kd.R_far (p := ⟨gb498, 2, none⟩) (Kd.R_far (p := ⟨gb498, 1, none⟩) (Kd.R_far (p := ⟨gb498, 0, none⟩) (Kd.R_types HO_6.out BK498.out (by decide)) (fun _ hk => hk.2) (.string ((rd_T42 l0_3 x42_2).f0))) (fun _ hk => hk.2) (.int .i64 ((rd_T42 l0_3 x42_2).f1))) (fun _ hk => hk.2) (.int .i64 ((rd_T42 l0_3 x42_2).f2))) (fun _ hk => hk.2) (.int .i64 ((rd_T42 l0_3 x42_2).f3))) (fun _ hk => hk.2) (.int .i64 ((rd_T42 l0_3 x42_2).f4))) (fun _ hk => hk.2) (.int .i64 ((rd_T42 l0_3 x42_2).f5))) (fun _ hk => hk.2) (.int .i64 ((rd_T42 l0_3 x42_2).f6))) (fun _ hk => hk.2) (.int .i64 ((rd_T42 l0_3 x42_2).f7))) (fun _ hk => trivial)⟩, ⟨by (with_reducible repeat (first | apply Kd.R_alloc | apply Kd.R_drewN | apply Kd.R_drew)); exact Kd.R_mono (Kd.R_far (p := ⟨gb498, 7, none⟩) (Kd.R_far (p := ⟨gb498, 6, none⟩) (Kd.R_far (p := ⟨gb498, 5, none⟩) (Kd.R_far (p := ⟨gb498, 4, none⟩) (Kd.R_far (p := ⟨gb498, 3, none⟩) (Kd.R_far (p := ⟨gb498, 2, none⟩) (Kd.R_far (p := ⟨gb498, 1, none⟩) (Kd.R_far (p := ⟨gb498, 0, none⟩) (Kd.R_types HO_7.out BK498.out (by decide)) (fun _ hk => hk.2) (.string ((rd_T42 l0_3 x42_2).f0))) (fun _ hk => hk.2) (.int .i64 ((rd_T42 l0_3 x42_2).f1))) (fun _ hk => hk.2) (.int .i64 ((rd_T42 l0_3 x42_2).f2))) (fun _ hk => hk.2) (.int .i64 ((rd_T42 l0_3 x42_2).f3))) (fun _ hk => hk.2) (.int .i64 ((rd_T42 l0_3 x42_2).f4))) (fun _ hk => hk.2) (.int .i64 ((rd_T42 l0_3 x42_2).f5))) (fun _ hk => hk.2) (.int .i64 ((rd_T42 l0_3 x42_2).f6))) (fun _ hk => hk.2) (.int .i64 ((rd_T42 l0_3 x42_2).f7))) (fun _ hk => hk.1)⟩, ⟨by (with_reducible repeat (first | refine blk_drewN ?_ _ | refine blk_drew ?_ | refine blk_alloc ?_ _)); refine blk_far ?_ NB486_498.out _; (with_reducible repeat (first | refine blk_drewN ?_ _ | refine blk_drew ?_ | refine blk_alloc ?_ _)); refine blk_far ?_ NB486_498.out _; (with_reducible repeat (first | refine blk_drewN ?_ _ | refine blk_drew ?_ | refine blk_alloc ?_ _)); refine blk_far ?_ NB486_498.out _; (with_reducible repeat (first | refine blk_drewN ?_ _ | refine blk_drew ?_ | refine blk_alloc ?_ _)); refine blk_far ?_ NB486_498.out _; (with_reducible repeat (first | refine blk_drewN ?_ _ | refine blk_drew ?_ | refine blk_alloc ?_ _)); refine blk_far ?_ NB486_498.out _; (with_reducible repeat (first | refine blk_drewN ?_ _ | refine blk_drew ?_ | refine blk_alloc ?_ _)); refine blk_far ?_ NB486_498.out _; (with_reducible repeat (first | refine blk_drewN ?_ _ | refine blk_drew ?_ | refine blk_alloc ?_ _)); refine blk_far ?_ NB486_498.out _; (with_reducible repeat (first | refine blk_drewN ?_ _ | refine blk_drew ?_ | refine blk_alloc ?_ _)); refine blk_far ?_ NB486_498.out _; (with_reducible repeat (first | refine blk_drewN ?_ _ | refine blk_drew ?_ | refine blk_alloc ?_ _)); exact BK486.out⟩, ⟨by (with_reducible repeat (first | refine blk_drewN ?_ _ | refine blk_drew ?_ | refine blk_alloc ?_ _)); refine blk_far ?_ NB496_498.out _; (with_reducible repeat (first | refine blk_drewN ?_ _ | refine blk_drew ?_ | refine blk_alloc ?_ _)); refine blk_far ?_ NB496_498.out _; (with_reducible repeat (first | refine blk_drewN ?_ _ | refine blk_drew ?_ | refine blk_alloc ?_ _)); refine blk_far ?_ NB496_498.out _; (with_reducible repeat (first | refine blk_drewN ?_ _ | refine blk_drew ?_ | refine blk_alloc ?_ _)); refine blk_far ?_ NB496_498.out _; (with_reducible repeat (first | refine blk_drewN ?_ _ | refine blk_drew ?_ | refine blk_alloc ?_ _)); refine blk_far ?_ NB496_498.out _; (with_reducible repeat (first | refine blk_drewN ?_ _ | refine blk_drew ?_ | refine blk_alloc ?_ _)); refine blk_far ?_ NB496_498.out _; (with_reducible repeat (first | refine blk_drewN ?_ _ | refine blk_drew ?_ | refine blk_alloc ?_ _)); refine blk_far ?_ NB496_498.out _; (with_reducible repeat (first | refine blk_drewN ?_ _ | refine blk_drew ?_ | refine blk_alloc ?_ _)); refine blk_far ?_ NB496_498.out _; (with_reducible repeat (first | refine blk_drewN ?_ _ | refine blk_drew ?_ | refine blk_alloc ?_ _)); exact BK496.out⟩, ⟨by (with_reducible repeat (first | refine blk_drewN ?_ _ | refine blk_drew ?_ | refine blk_alloc ?_ _)); refine blk_put (cs := #[.string ((rd_T42 l0_3 x42_2).f0), .int .i64 ((rd_T42 l0_3 x42_2).f1), .int .i64 ((rd_T42 l0_3 x42_2).f2), .int .i64 ((rd_T42 l0_3 x42_2).f3), .int .i64 ((rd_T42 l0_3 x42_2).f4), .int .i64 ((rd_T42 l0_3 x42_2).f5), .int .i64 ((rd_T42 l0_3 x42_2).f6), .int .i64 0]) ?_ 7 _ rfl; (with_reducible repeat (first | refine blk_drewN ?_ _ | refine blk_drew ?_ | refine blk_alloc ?_ _)); refine blk_put (cs := #[.string ((rd_T42 l0_3 x42_2).f0), .int .i64 ((rd_T42 l0_3 x42_2).f1), .int .i64 ((rd_T42 l0_3 x42_2).f2), .int .i64 ((rd_T42 l0_3 x42_2).f3), .int .i64 ((rd_T42 l0_3 x42_2).f4), .int .i64 ((rd_T42 l0_3 x42_2).f5), .int .i64 0, .int .i64 0]) ?_ 6 _ rfl; (with_reducible repeat (first | refine blk_drewN ?_ _ | refine blk_drew ?_ | refine blk_alloc ?_ _)); refine blk_put (cs := #[.string ((rd_T42 l0_3 x42_2).f0), .int .i64 ((rd_T42 l0_3 x42_2).f1), .int .i64 ((rd_T42 l0_3 x42_2).f2), .int .i64 ((rd_T42 l0_3 x42_2).f3), .int .i64 ((rd_T42 l0_3 x42_2).f4), .int .i64 0, .int .i64 0, .int .i64 0]) ?_ 5 _ rfl; (with_reducible repeat (first | refine blk_drewN ?_ _ | refine blk_drew ?_ | refine blk_alloc ?_ _)); refine blk_put (cs := #[.string ((rd_T42 l0_3 x42_2).f0), .int .i64 ((rd_T42 l0_3 x42_2).f1), .int .i64 ((rd_T42 l0_3 x42_2).f2), .int .i64 ((rd_T42 l0_3 x42_2).f3), .int .i64 0, .int .i64 0, .int .i64 0, .int .i64 0]) ?_ 4 _ rfl; (with_reducible repeat (first | refine blk_drewN ?_ _ | refine blk_drew ?_ | refine blk_alloc ?_ _)); refine blk_put (cs := #[.string ((rd_T42 l0_3 x42_2).f0), .int .i64 ((rd_T42 l0_3 x42_2).f1), .int .i64 ((rd_T42 l0_3 x42_2).f2), .int .i64 0, .int .i64 0, .int .i64 0, .int .i64 0, .int .i64 0]) ?_ 3 _ rfl; (with_reducible repeat (first | refine blk_drewN ?_ _ | refine blk_drew ?_ | refine blk_alloc ?_ _)); refine blk_put (cs := #[.string ((rd_T42 l0_3 x42_2).f0), .int .i64 ((rd_T42 l0_3 x42_2).f1), .int .i64 0, .int .i64 0, .int .i64 0, .int .i64 0, .int .i64 0, .int .i64 0]) ?_ 2 _ rfl; (with_reducible repeat (first | refine blk_drewN ?_ _ | refine blk_drew ?_ | refine blk_alloc ?_ _)); refine blk_put (cs := #[.string ((rd_T42 l0_3 x42_2).f0), .int .i64 0, .int .i64 0, .int .i64 0, .int .i64 0, .int .i64 0, .int .i64 0, .int .i64 0]) ?_ 1 _ rfl; (with_reducible repeat (first | refine blk_drewN ?_ _ | refine blk_drew ?_ | refine blk_alloc ?_ _)); refine blk_put (cs := #[.string (⟨#[]⟩ : ByteArray), .int .i64 0, .int .i64 0, .int .i64 0, .int .i64 0, .int .i64 0, .int .i64 0, .int .i64 0]) ?_ 0 _ rfl; (with_reducible repeat (first | refine blk_drewN ?_ _ | refine blk_drew ?_ | refine blk_alloc ?_ _)); exact BK498.out⟩, ⟨kB3 HB GE486 GE496 GE498⟩⟩
      case round =>
       clear H'
       obtain ⟨x47_3, x497000_3, x497001_3, x497002_3, rfl, HA, HK3, HO_6, HO_7, BK486, BK496, BK498, HB⟩ := hrel
       cases gk with
       | zero => exact absurd HA.out (by simp [w08_TreeSums.l2])
       | succ k3 =>
        have H := HA.out
        clear HA
        simp only [w08_TreeSums.l2] at H
        by_cases c30 : x47_3 < 3
        rotate_left
        ·rw [if_neg c30] at H
         have c30b0 : decide (x47_3 < 3) = false := decide_eq_false c30
         clear c30
         have H' := Aside0.mk H
         clear H
         go_wp2
         go_roundg k3
         case measure => have := HK1.out; have := HK2.out; have := HK3.out; omega
         case rel => exact ⟨(wrap64 (x42_2 + 1)), (x497000_3), (x497001_3), (x497002_3), tQ, H', ⟨by have := HK1.out; have := HK2.out; have := HK3.out; omega⟩, ⟨kR HO_6⟩, ⟨kR HO_7⟩, ⟨kK BK486⟩, ⟨kK BK496⟩, ⟨kB3 HB GE486 GE496 GE498⟩⟩
        rw [if_pos c30] at H
        have c30b0 : decide (x47_3 < 3) = true := decide_eq_true c30
        clear c30
        by_cases c31 : ((rd_T42 l0_3 x42_2).f1) = x36_1
        rotate_left
        ·rw [if_neg c31] at H
         have c31b0 : (((rd_T42 l0_3 x42_2).f1) == x36_1) = false := beq_eq_false_iff_ne.mpr c31
         have c31b1 : (((rd_T42 l0_3 x42_2).f1) != x36_1) = true := bne_iff_ne.mpr c31
         have H' := Aside0.mk H
         clear H
         have hnb62 := NB498_486.out
         have hnc62 := NB486_498.out
         have hnb63 := NB498_496.out
         have hnc63 := NB496_498.out
         obtain ⟨⟨hcz64_0, hcz64_1, hcz64_2, hcz64_3, hcz64_4, hcz64_5, hcz64_6, hcz64_7⟩, hfz64_0, hfz64_1, hfz64_2, hfz64_3, hfz64_4, hfz64_5, hfz64_6, hfz64_7⟩ := bx8 BK498
         go_wp2
         go_roundg k3
         case measure => have := HK1.out; have := HK2.out; have := HK3.out; omega
         case rel => exact ⟨(wrap64 (x47_3 + 1)), (x497000_3), (x497001_3), (x497002_3), tQ, H', ⟨by have := HK1.out; have := HK2.out; have := HK3.out; omega⟩, ⟨kR HO_6⟩, ⟨kR HO_7⟩, ⟨kK BK486⟩, ⟨kK BK496⟩, ⟨kK BK498⟩, ⟨kB3 HB GE486 GE496 GE498⟩⟩
        rw [if_pos c31] at H
        have c31b0 : (((rd_T42 l0_3 x42_2).f1) == x36_1) = true := beq_iff_eq.mpr c31
        have c31b1 : (((rd_T42 l0_3 x42_2).f1) != x36_1) = false := bne_eq_false_iff_eq.mpr c31
        clear c31
        by_cases c32 : 0 ≤ x47_3
        rotate_left
        ·rw [if_neg c32] at H
         exact absurd H (by simp)
        rw [if_pos c32] at H
        have c32b0 := eq_true c32
        have c32b1 : decide (0 ≤ x47_3) = true := decide_eq_true c32
        clear c32
        obtain ⟨ji33, hji33⟩ : ∃ j_ : Int, (shr .i64 ((rd_T42 l0_3 x42_2).f2) x47_3) = j_ := ⟨_, rfl⟩
        replace H : (if (Go.bits .and .i64 (ji33) 1) = 1 then (if x47_3 = 0 then (if 0 ≤ x42_2 then (if x42_2 < (t489.length : Int) then (w08_TreeSums.l2 k3 t487 t489 t492 x36_1 x42_2 (l0_0.length : Int) x36_1 l0_3 (l0_3.length : Int) x42_2 (wrap64 (x47_3 + 1)) l0_0 l0_1 l0_2 l0_3 l0_4 (wrap64 (x497000_3 + (rd t489 x42_2))) x497001_3 x497002_3 ((rd_T42 l0_3 x42_2).f0) ((rd_T42 l0_3 x42_2).f1) ((rd_T42 l0_3 x42_2).f2) ((rd_T42 l0_3 x42_2).f3) ((rd_T42 l0_3 x42_2).f4) ((rd_T42 l0_3 x42_2).f5) ((rd_T42 l0_3 x42_2).f6) ((rd_T42 l0_3 x42_2).f7)) else (none)) else (none)) else (if x47_3 = 1 then (if 0 ≤ x42_2 then (if x42_2 < (t489.length : Int) then (w08_TreeSums.l2 k3 t487 t489 t492 x36_1 x42_2 (l0_0.length : Int) x36_1 l0_3 (l0_3.length : Int) x42_2 (wrap64 (x47_3 + 1)) l0_0 l0_1 l0_2 l0_3 l0_4 x497000_3 (wrap64 (x497001_3 + (rd t489 x42_2))) x497002_3 ((rd_T42 l0_3 x42_2).f0) ((rd_T42 l0_3 x42_2).f1) ((rd_T42 l0_3 x42_2).f2) ((rd_T42 l0_3 x42_2).f3) ((rd_T42 l0_3 x42_2).f4) ((rd_T42 l0_3 x42_2).f5) ((rd_T42 l0_3 x42_2).f6) ((rd_T42 l0_3 x42_2).f7)) else (none)) else (none)) else (if x47_3 = 2 then (if 0 ≤ x42_2 then (if x42_2 < (t489.length : Int) then (w08_TreeSums.l2 k3 t487 t489 t492 x36_1 x42_2 (l0_0.length : Int) x36_1 l0_3 (l0_3.length : Int) x42_2 (wrap64 (x47_3 + 1)) l0_0 l0_1 l0_2 l0_3 l0_4 x497000_3 x497001_3 (wrap64 (x497002_3 + (rd t489 x42_2))) ((rd_T42 l0_3 x42_2).f0) ((rd_T42 l0_3 x42_2).f1) ((rd_T42 l0_3 x42_2).f2) ((rd_T42 l0_3 x42_2).f3) ((rd_T42 l0_3 x42_2).f4) ((rd_T42 l0_3 x42_2).f5) ((rd_T42 l0_3 x42_2).f6) ((rd_T42 l0_3 x42_2).f7)) else (none)) else (none)) else (none)))) else (w08_TreeSums.l2 k3 t487 t489 t492 x36_1 x42_2 (l0_0.length : Int) x36_1 l0_3 (l0_3.length : Int) x42_2 (wrap64 (x47_3 + 1)) l0_0 l0_1 l0_2 l0_3 l0_4 x497000_3 x497001_3 x497002_3 ((rd_T42 l0_3 x42_2).f0) ((rd_T42 l0_3 x42_2).f1) ((rd_T42 l0_3 x42_2).f2) ((rd_T42 l0_3 x42_2).f3) ((rd_T42 l0_3 x42_2).f4) ((rd_T42 l0_3 x42_2).f5) ((rd_T42 l0_3 x42_2).f6) ((rd_T42 l0_3 x42_2).f7))) = some r := by first | (rw [hji33] at H; exact H) | (simp only [hji33] at H ⊢; exact H)
        have hji33_ : (((rd_T42 l0_3 x42_2).f2) / 2 ^ min x47_3.toNat 64) = ji33 := hji33
        have hji33z : x47_3 ≤ 64 → (((rd_T42 l0_3 x42_2).f2) / 2 ^ x47_3.toNat) = ji33 := shr_small hji33
        (try (have hji33w := hji33z (by have h_ := of_decide_eq_true c30b0; omega)))
        by_cases c34 : (Go.bits .and .i64 (ji33) 1) = 1
        rotate_left
        ·rw [if_neg c34] at H
         have c34b0 : ((Go.bits .and .i64 (ji33) 1) == 1) = false := beq_eq_false_iff_ne.mpr c34
         have c34b1 : ((Go.bits .and .i64 (ji33) 1) != 1) = true := bne_iff_ne.mpr c34
         have H' := Aside0.mk H
         clear H
         have hnb59 := NB498_486.out
         have hnc59 := NB486_498.out
         have hnb60 := NB498_496.out
         have hnc60 := NB496_498.out
         obtain ⟨⟨hcz61_0, hcz61_1, hcz61_2, hcz61_3, hcz61_4, hcz61_5, hcz61_6, hcz61_7⟩, hfz61_0, hfz61_1, hfz61_2, hfz61_3, hfz61_4, hfz61_5, hfz61_6, hfz61_7⟩ := bx8 BK498
         go_wp2
         go_roundg k3
         case measure => have := HK1.out; have := HK2.out; have := HK3.out; omega
         case rel => exact ⟨(wrap64 (x47_3 + 1)), (x497000_3), (x497001_3), (x497002_3), tQ, H', ⟨by have := HK1.out; have := HK2.out; have := HK3.out; omega⟩, ⟨kR HO_6⟩, ⟨kR HO_7⟩, ⟨kK BK486⟩, ⟨kK BK496⟩, ⟨kK BK498⟩, ⟨kB3 HB GE486 GE496 GE498⟩⟩
        rw [if_pos c34] at H
        have c34b0 : ((Go.bits .and .i64 (ji33) 1) == 1) = true := beq_iff_eq.mpr c34
        have c34b1 : ((Go.bits .and .i64 (ji33) 1) != 1) = false := bne_eq_false_iff_eq.mpr c34
        clear c34
        by_cases c35 : x47_3 = 0
        ·rw [if_pos c35] at H
         have c35b0 : (x47_3 == 0) = true := beq_iff_eq.mpr c35
         have c35b1 : (x47_3 != 0) = false := bne_eq_false_iff_eq.mpr c35
         have c35b2 : ∀ (a_ : Addr) (W_ : World), (Instr.indexAt 55 (.pointer (some a_)) (.int .i64 x47_3)).run Try.prog W_ = .ok (.pointer (some (a_.add 0))) W_ := fun a_ W_ => ix_arr Try.underlying55 (fun W_ => by go_simp) 0 (by decide) x47_3 c35 a_ W_
         clear c35
         by_cases c36 : 0 ≤ x42_2
         rotate_left
         ·rw [if_neg c36] at H
          exact absurd H (by simp)
         rw [if_pos c36] at H
         have c36b0 : decide (0 ≤ x42_2) = true := decide_eq_true c36
         clear c36
         by_cases c37 : x42_2 < (t489.length : Int)
         rotate_left
         ·rw [if_neg c37] at H
          exact absurd H (by simp)
         rw [if_pos c37] at H
         have c37b0 : decide (x42_2 < (t489.length : Int)) = true := decide_eq_true c37
         clear c37
         have H' := Aside0.mk H
         clear H
         have hnb38 := NB498_486.out
         have hnc38 := NB486_498.out
         have hnb39 := NB498_496.out
         have hnc39 := NB496_498.out
         obtain ⟨⟨hcz40_0, hcz40_1, hcz40_2, hcz40_3, hcz40_4, hcz40_5, hcz40_6, hcz40_7⟩, hfz40_0, hfz40_1, hfz40_2, hfz40_3, hfz40_4, hfz40_5, hfz40_6, hfz40_7⟩ := bx8 BK498
         try go_wp2
         have n0_ := Aside0.mk (Kd.R_drew HO_6.out)
         have n1_ := Aside0.mk (Kd.R_drew HO_7.out)
         have n2_ := Aside0.mk (blk_drew BK486.out)
         have n3_ := Aside0.mk (blk_drew BK496.out)
         have n4_ := Aside0.mk (blk_drew BK498.out)
         have n5_ := Aside0.mk (below_drew1 HB.out)
         clear HO_6
         clear HO_7
         clear BK486
         clear BK496
         clear BK498
         clear HB
         have HO_6 := n0_
         have HO_7 := n1_
         have BK486 := n2_
         have BK496 := n3_
         have BK498 := n4_
         have HB := n5_
         clear n0_ n1_ n2_ n3_ n4_ n5_
         have p499 : 0 ≤ (x42_2 : Int) := tD
         have q499 : x42_2 < (t489.length : Int) := tD
         obtain ⟨ad499, e499, hx499_0⟩ := Kd.at_int (Kd.R_reads' HO_6.out).2.2 x42_2 p499 q499
         cases e499
         replace p499 := eq_true p499
         replace q499 := eq_true q499
         refine start_ (n := 10) (S := fun w' => w'.cell? ⟨gb496, 0, none⟩ = some (.int .i64 x497000_3) ∧ w'.cell? ⟨gb496, 1, none⟩ = some (.int .i64 x497001_3) ∧ w'.cell? ⟨gb496, 2, none⟩ = some (.int .i64 x497002_3) ∧ w'.cell? (ad499.add (x42_2).toNat) = some (.int .i64 (rd t489 x42_2))) (ds := [9]) #[false, false, false, false, false, false, false, false, false, false] (by kernel_rfl) rfl rfl ⟨(blk_cell BK496.out 0).trans rfl, (blk_cell BK496.out 1).trans rfl, (blk_cell BK496.out 2).trans rfl, hx499_0⟩ (fun hHeld => ?_); refine with_tabW w08_TreeSums.tab19 w08_TreeSums.bits19 (fun HT_ HW_ => ?_)
         generalize wr.drew = w41 at HO_6 HO_7 BK486 BK496 BK498 HB hx499_0 hHeld ⊢
         refine pure_ (i := 0) (N := some 62) (v := ?_) (a' := ?_) #[true, false, false, false, false, false, false, false, false, false] rfl rfl (any_of HT_.out (by kernel_rfl)) (fun _ _ _ h => h) (Or.inl ⟨by rfl, ?_⟩) ?_ ?_
         rotate_left
         ·intro w'
          go_simp
          with_reducible rfl
         rotate_left
         ·simp only [Act.put, List.setIfInBounds_toArray, List.set_cons_zero, List.set_cons_succ, i64_w, i32_w]
          rfl
         refine pure_ (i := 1) (N := some 63) (v := ?_) (a' := ?_) #[true, true, false, false, false, false, false, false, false, false] rfl rfl (any_of HT_.out (by kernel_rfl)) (fun _ _ _ h => h) (Or.inl ⟨by rfl, ?_⟩) ?_ ?_
         rotate_left
         ·intro w'
          go_simp
          with_reducible rfl
         rotate_left
         ·simp only [Act.put, List.setIfInBounds_toArray, List.set_cons_zero, List.set_cons_succ, i64_w, i32_w]
          rfl
         refine pure_ (i := 3) (N := some 65) (v := ?_) (a' := ?_) #[true, true, false, true, false, false, false, false, false, false] rfl rfl (any_of HT_.out (by kernel_rfl)) (fun _ _ _ h => h) (Or.inl ⟨by rfl, ?_⟩) ?_ ?_
         rotate_left
         ·intro w'
          go_simp
          with_reducible rfl
         rotate_left
         ·simp only [Act.put, List.setIfInBounds_toArray, List.set_cons_zero, List.set_cons_succ, i64_w, i32_w]
          rfl
         refine pure_ (i := 4) (N := some 66) (v := ?_) (a' := ?_) #[true, true, false, true, true, false, false, false, false, false] rfl rfl (any_of HT_.out (by kernel_rfl)) (fun _ _ _ h => h) (Or.inl ⟨by rfl, ?_⟩) ?_ ?_
         rotate_left
         ·intro w'
          go_simp
          with_reducible rfl
         rotate_left
         ·simp only [Act.put, List.setIfInBounds_toArray, List.set_cons_zero, List.set_cons_succ, i64_w, i32_w]
          rfl
         refine pure_ (i := 5) (N := some 67) (v := ?_) (a' := ?_) #[true, true, false, true, true, true, false, false, false, false] rfl rfl (any_of HT_.out (by kernel_rfl)) (fun _ _ _ h => h) (Or.inl ⟨by rfl, ?_⟩) ?_ ?_
         rotate_left
         ·intro w'
          go_simp
          with_reducible rfl
         rotate_left
         ·simp only [Act.put, List.setIfInBounds_toArray, List.set_cons_zero, List.set_cons_succ, i64_w, i32_w]
          rfl
         refine take_ (i := 2) (N := some 64) (v := ?_) (a' := ?_) #[true, true, true, true, true, true, false, false, false, false] rfl rfl (take_ofW HT_.out HW_.out (by kernel_rfl)) (fun _ _ _ h => h) (Or.inl ⟨by rfl, ?_⟩) hHeld ?_ ?_
         rotate_left
         ·rintro w' ⟨s0, s1, s2, s3⟩
          go_simp
          with_reducible rfl
         rotate_left
         ·simp only [Act.put, List.setIfInBounds_toArray, List.set_cons_zero, List.set_cons_succ, i64_w, i32_w]
          rfl
         refine take_ (i := 6) (N := some 68) (v := ?_) (a' := ?_) #[true, true, true, true, true, true, true, false, false, false] rfl rfl (take_ofW HT_.out HW_.out (by kernel_rfl)) (fun _ _ _ h => h) (Or.inl ⟨by rfl, ?_⟩) hHeld ?_ ?_
         rotate_left
         ·rintro w' ⟨s0, s1, s2, s3⟩
          go_simp
          with_reducible rfl
         rotate_left
         ·simp only [Act.put, List.setIfInBounds_toArray, List.set_cons_zero, List.set_cons_succ, i64_w, i32_w]
          rfl
         refine pure_ (i := 7) (N := some 69) (v := ?_) (a' := ?_) #[true, true, true, true, true, true, true, true, false, false] rfl rfl (any_of HT_.out (by kernel_rfl)) (fun _ _ _ h => h) (Or.inl ⟨by rfl, ?_⟩) ?_ ?_
         rotate_left
         ·intro w'
          go_simp
          with_reducible rfl
         rotate_left
         ·simp only [Act.put, List.setIfInBounds_toArray, List.set_cons_zero, List.set_cons_succ, i64_w, i32_w]
          rfl
         refine pure_ (i := 8) (N := some 70) (v := ?_) (a' := ?_) #[true, true, true, true, true, true, true, true, true, false] rfl rfl (any_of HT_.out (by kernel_rfl)) (fun _ _ _ h => h) (Or.inl ⟨by rfl, ?_⟩) ?_ ?_
         rotate_left
         ·intro w'
          go_simp
          with_reducible rfl
         rotate_left
         ·simp only [Act.put, List.setIfInBounds_toArray, List.set_cons_zero, List.set_cons_succ, i64_w, i32_w]
          rfl
         refine last_ (i := 9) (N := none) #[true, true, true, true, true, true, true, true, true, true] rfl rfl (one_of HT_.out (by kernel_rfl)) (by decide) (fun K hK => ?_)
         have hs42 : w41.cell? ⟨gb496, 0, none⟩ = some (.int .i64 x497000_3) := (blk_cell BK496.out 0).trans rfl
         have hfs42 := blk_frozen BK496.out 0
         have hns42_0 := NB486_496.out
         have hns42_2 := NB498_496.out
         have hms42_0 := NB496_486.out
         have hms42_2 := NB496_498.out
         refine skip_ (w1 := ?_) (by rfl) rfl ?_ ?_
         rotate_left
         ·go_simp
          rfl
         refine hK.out _ _ ?_
         clear hK K
         refine done_ (done_of HT_.out (by kernel_rfl)) ?_
         try go_wp2
         go_roundg k3
         case measure => have := HK1.out; have := HK2.out; have := HK3.out; omega
         case rel => exact ⟨(wrap64 (x47_3 + 1)), (wrap64 (x497000_3 + (rd t489 x42_2))), (x497001_3), (x497002_3), tQ, H', ⟨by have := HK1.out; have := HK2.out; have := HK3.out; omega⟩, ⟨by (with_reducible repeat (first | apply Kd.R_alloc | apply Kd.R_drewN | apply Kd.R_drew)); exact Kd.R_mono (Kd.R_far (p := ⟨gb496, 0, none⟩) (Kd.R_types HO_6.out BK496.out (by decide)) (fun _ hk => hk.2) (.int .i64 (wrap64 (x497000_3 + (rd t489 x42_2))))) (fun _ hk => trivial)⟩, ⟨by (with_reducible repeat (first | apply Kd.R_alloc | apply Kd.R_drewN | apply Kd.R_drew)); exact Kd.R_mono (Kd.R_far (p := ⟨gb496, 0, none⟩) (Kd.R_mono HO_7.out (fun k_ hk => (⟨hk, hk⟩ : _ ∧ k_ ≠ gb496))) (fun _ hk => hk.2) (.int .i64 (wrap64 (x497000_3 + (rd t489 x42_2))))) (fun _ hk => hk.1)⟩, ⟨by (with_reducible repeat (first | refine blk_drewN ?_ _ | refine blk_drew ?_ | refine blk_alloc ?_ _)); refine blk_far ?_ NB486_496.out _; (with_reducible repeat (first | refine blk_drewN ?_ _ | refine blk_drew ?_ | refine blk_alloc ?_ _)); exact BK486.out⟩, ⟨by (with_reducible repeat (first | refine blk_drewN ?_ _ | refine blk_drew ?_ | refine blk_alloc ?_ _)); refine blk_put (cs := #[.int .i64 x497000_3, .int .i64 x497001_3, .int .i64 x497002_3]) ?_ 0 _ rfl; (with_reducible repeat (first | refine blk_drewN ?_ _ | refine blk_drew ?_ | refine blk_alloc ?_ _)); exact BK496.out⟩, ⟨by (with_reducible repeat (first | refine blk_drewN ?_ _ | refine blk_drew ?_ | refine blk_alloc ?_ _)); refine blk_far ?_ NB498_496.out _; (with_reducible repeat (first | refine blk_drewN ?_ _ | refine blk_drew ?_ | refine blk_alloc ?_ _)); exact BK498.out⟩, ⟨kB3 HB GE486 GE496 GE498⟩⟩
        rw [if_neg c35] at H
        have c35b0 : (x47_3 == 0) = false := beq_eq_false_iff_ne.mpr c35
        have c35b1 : (x47_3 != 0) = true := bne_iff_ne.mpr c35
        by_cases c43 : x47_3 = 1
        ·rw [if_pos c43] at H
         have c43b0 : (x47_3 == 1) = true := beq_iff_eq.mpr c43
         have c43b1 : (x47_3 != 1) = false := bne_eq_false_iff_eq.mpr c43
         have c43b2 : ∀ (a_ : Addr) (W_ : World), (Instr.indexAt 55 (.pointer (some a_)) (.int .i64 x47_3)).run Try.prog W_ = .ok (.pointer (some (a_.add 1))) W_ := fun a_ W_ => ix_arr Try.underlying55 (fun W_ => by go_simp) 1 (by decide) x47_3 c43 a_ W_
         clear c43
         by_cases c44 : 0 ≤ x42_2
         rotate_left
         ·rw [if_neg c44] at H
          exact absurd H (by simp)
         rw [if_pos c44] at H
         have c44b0 : decide (0 ≤ x42_2) = true := decide_eq_true c44
         clear c44
         by_cases c45 : x42_2 < (t489.length : Int)
         rotate_left
         ·rw [if_neg c45] at H
          exact absurd H (by simp)
         rw [if_pos c45] at H
         have c45b0 : decide (x42_2 < (t489.length : Int)) = true := decide_eq_true c45
         clear c45
         have H' := Aside0.mk H
         clear H
         have hnb46 := NB498_486.out
         have hnc46 := NB486_498.out
         have hnb47 := NB498_496.out
         have hnc47 := NB496_498.out
         obtain ⟨⟨hcz48_0, hcz48_1, hcz48_2, hcz48_3, hcz48_4, hcz48_5, hcz48_6, hcz48_7⟩, hfz48_0, hfz48_1, hfz48_2, hfz48_3, hfz48_4, hfz48_5, hfz48_6, hfz48_7⟩ := bx8 BK498
         try go_wp2
         have n0_ := Aside0.mk (Kd.R_drew HO_6.out)
         have n1_ := Aside0.mk (Kd.R_drew HO_7.out)
         have n2_ := Aside0.mk (blk_drew BK486.out)
         have n3_ := Aside0.mk (blk_drew BK496.out)
         have n4_ := Aside0.mk (blk_drew BK498.out)
         have n5_ := Aside0.mk (below_drew1 HB.out)
         clear HO_6
         clear HO_7
         clear BK486
         clear BK496
         clear BK498
         clear HB
         have HO_6 := n0_
         have HO_7 := n1_
         have BK486 := n2_
         have BK496 := n3_
         have BK498 := n4_
         have HB := n5_
         clear n0_ n1_ n2_ n3_ n4_ n5_
         have p500 : 0 ≤ (x42_2 : Int) := tD
         have q500 : x42_2 < (t489.length : Int) := tD
         obtain ⟨ad500, e500, hx500_0⟩ := Kd.at_int (Kd.R_reads' HO_6.out).2.2 x42_2 p500 q500
         cases e500
         replace p500 := eq_true p500
         replace q500 := eq_true q500
         refine start_ (n := 10) (S := fun w' => w'.cell? ⟨gb496, 0, none⟩ = some (.int .i64 x497000_3) ∧ w'.cell? ⟨gb496, 1, none⟩ = some (.int .i64 x497001_3) ∧ w'.cell? ⟨gb496, 2, none⟩ = some (.int .i64 x497002_3) ∧ w'.cell? (ad500.add (x42_2).toNat) = some (.int .i64 (rd t489 x42_2))) (ds := [9]) #[false, false, false, false, false, false, false, false, false, false] (by kernel_rfl) rfl rfl ⟨(blk_cell BK496.out 0).trans rfl, (blk_cell BK496.out 1).trans rfl, (blk_cell BK496.out 2).trans rfl, hx500_0⟩ (fun hHeld => ?_); refine with_tabW w08_TreeSums.tab19 w08_TreeSums.bits19 (fun HT_ HW_ => ?_)
         generalize wr.drew = w49 at HO_6 HO_7 BK486 BK496 BK498 HB hx500_0 hHeld ⊢
         refine pure_ (i := 0) (N := some 62) (v := ?_) (a' := ?_) #[true, false, false, false, false, false, false, false, false, false] rfl rfl (any_of HT_.out (by kernel_rfl)) (fun _ _ _ h => h) (Or.inl ⟨by rfl, ?_⟩) ?_ ?_
         rotate_left
         ·intro w'
          go_simp
          with_reducible rfl
         rotate_left
         ·simp only [Act.put, List.setIfInBounds_toArray, List.set_cons_zero, List.set_cons_succ, i64_w, i32_w]
          rfl
         refine pure_ (i := 1) (N := some 63) (v := ?_) (a' := ?_) #[true, true, false, false, false, false, false, false, false, false] rfl rfl (any_of HT_.out (by kernel_rfl)) (fun _ _ _ h => h) (Or.inl ⟨by rfl, ?_⟩) ?_ ?_
         rotate_left
         ·intro w'
          go_simp
          with_reducible rfl
         rotate_left
         ·simp only [Act.put, List.setIfInBounds_toArray, List.set_cons_zero, List.set_cons_succ, i64_w, i32_w]
          rfl
         refine pure_ (i := 3) (N := some 65) (v := ?_) (a' := ?_) #[true, true, false, true, false, false, false, false, false, false] rfl rfl (any_of HT_.out (by kernel_rfl)) (fun _ _ _ h => h) (Or.inl ⟨by rfl, ?_⟩) ?_ ?_
         rotate_left
         ·intro w'
          go_simp
          with_reducible rfl
         rotate_left
         ·simp only [Act.put, List.setIfInBounds_toArray, List.set_cons_zero, List.set_cons_succ, i64_w, i32_w]
          rfl
         refine pure_ (i := 4) (N := some 66) (v := ?_) (a' := ?_) #[true, true, false, true, true, false, false, false, false, false] rfl rfl (any_of HT_.out (by kernel_rfl)) (fun _ _ _ h => h) (Or.inl ⟨by rfl, ?_⟩) ?_ ?_
         rotate_left
         ·intro w'
          go_simp
          with_reducible rfl
         rotate_left
         ·simp only [Act.put, List.setIfInBounds_toArray, List.set_cons_zero, List.set_cons_succ, i64_w, i32_w]
          rfl
         refine pure_ (i := 5) (N := some 67) (v := ?_) (a' := ?_) #[true, true, false, true, true, true, false, false, false, false] rfl rfl (any_of HT_.out (by kernel_rfl)) (fun _ _ _ h => h) (Or.inl ⟨by rfl, ?_⟩) ?_ ?_
         rotate_left
         ·intro w'
          go_simp
          with_reducible rfl
         rotate_left
         ·simp only [Act.put, List.setIfInBounds_toArray, List.set_cons_zero, List.set_cons_succ, i64_w, i32_w]
          rfl
         refine take_ (i := 2) (N := some 64) (v := ?_) (a' := ?_) #[true, true, true, true, true, true, false, false, false, false] rfl rfl (take_ofW HT_.out HW_.out (by kernel_rfl)) (fun _ _ _ h => h) (Or.inl ⟨by rfl, ?_⟩) hHeld ?_ ?_
         rotate_left
         ·rintro w' ⟨s0, s1, s2, s3⟩
          go_simp
          with_reducible rfl
         rotate_left
         ·simp only [Act.put, List.setIfInBounds_toArray, List.set_cons_zero, List.set_cons_succ, i64_w, i32_w]
          rfl
         refine take_ (i := 6) (N := some 68) (v := ?_) (a' := ?_) #[true, true, true, true, true, true, true, false, false, false] rfl rfl (take_ofW HT_.out HW_.out (by kernel_rfl)) (fun _ _ _ h => h) (Or.inl ⟨by rfl, ?_⟩) hHeld ?_ ?_
         rotate_left
         ·rintro w' ⟨s0, s1, s2, s3⟩
          go_simp
          with_reducible rfl
         rotate_left
         ·simp only [Act.put, List.setIfInBounds_toArray, List.set_cons_zero, List.set_cons_succ, i64_w, i32_w]
          rfl
         refine pure_ (i := 7) (N := some 69) (v := ?_) (a' := ?_) #[true, true, true, true, true, true, true, true, false, false] rfl rfl (any_of HT_.out (by kernel_rfl)) (fun _ _ _ h => h) (Or.inl ⟨by rfl, ?_⟩) ?_ ?_
         rotate_left
         ·intro w'
          go_simp
          with_reducible rfl
         rotate_left
         ·simp only [Act.put, List.setIfInBounds_toArray, List.set_cons_zero, List.set_cons_succ, i64_w, i32_w]
          rfl
         refine pure_ (i := 8) (N := some 70) (v := ?_) (a' := ?_) #[true, true, true, true, true, true, true, true, true, false] rfl rfl (any_of HT_.out (by kernel_rfl)) (fun _ _ _ h => h) (Or.inl ⟨by rfl, ?_⟩) ?_ ?_
         rotate_left
         ·intro w'
          go_simp
          with_reducible rfl
         rotate_left
         ·simp only [Act.put, List.setIfInBounds_toArray, List.set_cons_zero, List.set_cons_succ, i64_w, i32_w]
          rfl
         refine last_ (i := 9) (N := none) #[true, true, true, true, true, true, true, true, true, true] rfl rfl (one_of HT_.out (by kernel_rfl)) (by decide) (fun K hK => ?_)
         have hs50 : w49.cell? ⟨gb496, 1, none⟩ = some (.int .i64 x497001_3) := (blk_cell BK496.out 1).trans rfl
         have hfs50 := blk_frozen BK496.out 1
         have hns50_0 := NB486_496.out
         have hns50_2 := NB498_496.out
         have hms50_0 := NB496_486.out
         have hms50_2 := NB496_498.out
         refine skip_ (w1 := ?_) (by rfl) rfl ?_ ?_
         rotate_left
         ·go_simp
          rfl
         refine hK.out _ _ ?_
         clear hK K
         refine done_ (done_of HT_.out (by kernel_rfl)) ?_
         try go_wp2
         go_roundg k3
         case measure => have := HK1.out; have := HK2.out; have := HK3.out; omega
         case rel => exact ⟨(wrap64 (x47_3 + 1)), (x497000_3), (wrap64 (x497001_3 + (rd t489 x42_2))), (x497002_3), tQ, H', ⟨by have := HK1.out; have := HK2.out; have := HK3.out; omega⟩, ⟨by (with_reducible repeat (first | apply Kd.R_alloc | apply Kd.R_drewN | apply Kd.R_drew)); exact Kd.R_mono (Kd.R_far (p := ⟨gb496, 1, none⟩) (Kd.R_types HO_6.out BK496.out (by decide)) (fun _ hk => hk.2) (.int .i64 (wrap64 (x497001_3 + (rd t489 x42_2))))) (fun _ hk => trivial)⟩, ⟨by (with_reducible repeat (first | apply Kd.R_alloc | apply Kd.R_drewN | apply Kd.R_drew)); exact Kd.R_mono (Kd.R_far (p := ⟨gb496, 1, none⟩) (Kd.R_mono HO_7.out (fun k_ hk => (⟨hk, hk⟩ : _ ∧ k_ ≠ gb496))) (fun _ hk => hk.2) (.int .i64 (wrap64 (x497001_3 + (rd t489 x42_2))))) (fun _ hk => hk.1)⟩, ⟨by (with_reducible repeat (first | refine blk_drewN ?_ _ | refine blk_drew ?_ | refine blk_alloc ?_ _)); refine blk_far ?_ NB486_496.out _; (with_reducible repeat (first | refine blk_drewN ?_ _ | refine blk_drew ?_ | refine blk_alloc ?_ _)); exact BK486.out⟩, ⟨by (with_reducible repeat (first | refine blk_drewN ?_ _ | refine blk_drew ?_ | refine blk_alloc ?_ _)); refine blk_put (cs := #[.int .i64 x497000_3, .int .i64 x497001_3, .int .i64 x497002_3]) ?_ 1 _ rfl; (with_reducible repeat (first | refine blk_drewN ?_ _ | refine blk_drew ?_ | refine blk_alloc ?_ _)); exact BK496.out⟩, ⟨by (with_reducible repeat (first | refine blk_drewN ?_ _ | refine blk_drew ?_ | refine blk_alloc ?_ _)); refine blk_far ?_ NB498_496.out _; (with_reducible repeat (first | refine blk_drewN ?_ _ | refine blk_drew ?_ | refine blk_alloc ?_ _)); exact BK498.out⟩, ⟨kB3 HB GE486 GE496 GE498⟩⟩
        rw [if_neg c43] at H
        have c43b0 : (x47_3 == 1) = false := beq_eq_false_iff_ne.mpr c43
        have c43b1 : (x47_3 != 1) = true := bne_iff_ne.mpr c43
        by_cases c51 : x47_3 = 2
        rotate_left
        ·rw [if_neg c51] at H
         exact absurd H (by simp)
        rw [if_pos c51] at H
        have c51b0 : (x47_3 == 2) = true := beq_iff_eq.mpr c51
        have c51b1 : (x47_3 != 2) = false := bne_eq_false_iff_eq.mpr c51
        have c51b2 : ∀ (a_ : Addr) (W_ : World), (Instr.indexAt 55 (.pointer (some a_)) (.int .i64 x47_3)).run Try.prog W_ = .ok (.pointer (some (a_.add 2))) W_ := fun a_ W_ => ix_arr Try.underlying55 (fun W_ => by go_simp) 2 (by decide) x47_3 c51 a_ W_
        clear c51
        by_cases c52 : 0 ≤ x42_2
        rotate_left
        ·rw [if_neg c52] at H
         exact absurd H (by simp)
        rw [if_pos c52] at H
        have c52b0 : decide (0 ≤ x42_2) = true := decide_eq_true c52
        clear c52
        by_cases c53 : x42_2 < (t489.length : Int)
        rotate_left
        ·rw [if_neg c53] at H
         exact absurd H (by simp)
        rw [if_pos c53] at H
        have c53b0 : decide (x42_2 < (t489.length : Int)) = true := decide_eq_true c53
        clear c53
        have H' := Aside0.mk H
        clear H
        have hnb54 := NB498_486.out
        have hnc54 := NB486_498.out
        have hnb55 := NB498_496.out
        have hnc55 := NB496_498.out
        obtain ⟨⟨hcz56_0, hcz56_1, hcz56_2, hcz56_3, hcz56_4, hcz56_5, hcz56_6, hcz56_7⟩, hfz56_0, hfz56_1, hfz56_2, hfz56_3, hfz56_4, hfz56_5, hfz56_6, hfz56_7⟩ := bx8 BK498
        try go_wp2
        have n0_ := Aside0.mk (Kd.R_drew HO_6.out)
        have n1_ := Aside0.mk (Kd.R_drew HO_7.out)
        have n2_ := Aside0.mk (blk_drew BK486.out)
        have n3_ := Aside0.mk (blk_drew BK496.out)
        have n4_ := Aside0.mk (blk_drew BK498.out)
        have n5_ := Aside0.mk (below_drew1 HB.out)
        clear HO_6
        clear HO_7
        clear BK486
        clear BK496
        clear BK498
        clear HB
        have HO_6 := n0_
        have HO_7 := n1_
        have BK486 := n2_
        have BK496 := n3_
        have BK498 := n4_
        have HB := n5_
        clear n0_ n1_ n2_ n3_ n4_ n5_
        have p501 : 0 ≤ (x42_2 : Int) := tD
        have q501 : x42_2 < (t489.length : Int) := tD
        obtain ⟨ad501, e501, hx501_0⟩ := Kd.at_int (Kd.R_reads' HO_6.out).2.2 x42_2 p501 q501
        cases e501
        replace p501 := eq_true p501
        replace q501 := eq_true q501
        refine start_ (n := 10) (S := fun w' => w'.cell? ⟨gb496, 0, none⟩ = some (.int .i64 x497000_3) ∧ w'.cell? ⟨gb496, 1, none⟩ = some (.int .i64 x497001_3) ∧ w'.cell? ⟨gb496, 2, none⟩ = some (.int .i64 x497002_3) ∧ w'.cell? (ad501.add (x42_2).toNat) = some (.int .i64 (rd t489 x42_2))) (ds := [9]) #[false, false, false, false, false, false, false, false, false, false] (by kernel_rfl) rfl rfl ⟨(blk_cell BK496.out 0).trans rfl, (blk_cell BK496.out 1).trans rfl, (blk_cell BK496.out 2).trans rfl, hx501_0⟩ (fun hHeld => ?_); refine with_tabW w08_TreeSums.tab19 w08_TreeSums.bits19 (fun HT_ HW_ => ?_)
        generalize wr.drew = w57 at HO_6 HO_7 BK486 BK496 BK498 HB hx501_0 hHeld ⊢
        refine pure_ (i := 0) (N := some 62) (v := ?_) (a' := ?_) #[true, false, false, false, false, false, false, false, false, false] rfl rfl (any_of HT_.out (by kernel_rfl)) (fun _ _ _ h => h) (Or.inl ⟨by rfl, ?_⟩) ?_ ?_
        rotate_left
        ·intro w'
         go_simp
         with_reducible rfl
        rotate_left
        ·simp only [Act.put, List.setIfInBounds_toArray, List.set_cons_zero, List.set_cons_succ, i64_w, i32_w]
         rfl
        refine pure_ (i := 1) (N := some 63) (v := ?_) (a' := ?_) #[true, true, false, false, false, false, false, false, false, false] rfl rfl (any_of HT_.out (by kernel_rfl)) (fun _ _ _ h => h) (Or.inl ⟨by rfl, ?_⟩) ?_ ?_
        rotate_left
        ·intro w'
         go_simp
         with_reducible rfl
        rotate_left
        ·simp only [Act.put, List.setIfInBounds_toArray, List.set_cons_zero, List.set_cons_succ, i64_w, i32_w]
         rfl
        refine pure_ (i := 3) (N := some 65) (v := ?_) (a' := ?_) #[true, true, false, true, false, false, false, false, false, false] rfl rfl (any_of HT_.out (by kernel_rfl)) (fun _ _ _ h => h) (Or.inl ⟨by rfl, ?_⟩) ?_ ?_
        rotate_left
        ·intro w'
         go_simp
         with_reducible rfl
        rotate_left
        ·simp only [Act.put, List.setIfInBounds_toArray, List.set_cons_zero, List.set_cons_succ, i64_w, i32_w]
         rfl
        refine pure_ (i := 4) (N := some 66) (v := ?_) (a' := ?_) #[true, true, false, true, true, false, false, false, false, false] rfl rfl (any_of HT_.out (by kernel_rfl)) (fun _ _ _ h => h) (Or.inl ⟨by rfl, ?_⟩) ?_ ?_
        rotate_left
        ·intro w'
         go_simp
         with_reducible rfl
        rotate_left
        ·simp only [Act.put, List.setIfInBounds_toArray, List.set_cons_zero, List.set_cons_succ, i64_w, i32_w]
         rfl
        refine pure_ (i := 5) (N := some 67) (v := ?_) (a' := ?_) #[true, true, false, true, true, true, false, false, false, false] rfl rfl (any_of HT_.out (by kernel_rfl)) (fun _ _ _ h => h) (Or.inl ⟨by rfl, ?_⟩) ?_ ?_
        rotate_left
        ·intro w'
         go_simp
         with_reducible rfl
        rotate_left
        ·simp only [Act.put, List.setIfInBounds_toArray, List.set_cons_zero, List.set_cons_succ, i64_w, i32_w]
         rfl
        refine take_ (i := 2) (N := some 64) (v := ?_) (a' := ?_) #[true, true, true, true, true, true, false, false, false, false] rfl rfl (take_ofW HT_.out HW_.out (by kernel_rfl)) (fun _ _ _ h => h) (Or.inl ⟨by rfl, ?_⟩) hHeld ?_ ?_
        rotate_left
        ·rintro w' ⟨s0, s1, s2, s3⟩
         go_simp
         with_reducible rfl
        rotate_left
        ·simp only [Act.put, List.setIfInBounds_toArray, List.set_cons_zero, List.set_cons_succ, i64_w, i32_w]
         rfl
        refine take_ (i := 6) (N := some 68) (v := ?_) (a' := ?_) #[true, true, true, true, true, true, true, false, false, false] rfl rfl (take_ofW HT_.out HW_.out (by kernel_rfl)) (fun _ _ _ h => h) (Or.inl ⟨by rfl, ?_⟩) hHeld ?_ ?_
        rotate_left
        ·rintro w' ⟨s0, s1, s2, s3⟩
         go_simp
         with_reducible rfl
        rotate_left
        ·simp only [Act.put, List.setIfInBounds_toArray, List.set_cons_zero, List.set_cons_succ, i64_w, i32_w]
         rfl
        refine pure_ (i := 7) (N := some 69) (v := ?_) (a' := ?_) #[true, true, true, true, true, true, true, true, false, false] rfl rfl (any_of HT_.out (by kernel_rfl)) (fun _ _ _ h => h) (Or.inl ⟨by rfl, ?_⟩) ?_ ?_
        rotate_left
        ·intro w'
         go_simp
         with_reducible rfl
        rotate_left
        ·simp only [Act.put, List.setIfInBounds_toArray, List.set_cons_zero, List.set_cons_succ, i64_w, i32_w]
         rfl
        refine pure_ (i := 8) (N := some 70) (v := ?_) (a' := ?_) #[true, true, true, true, true, true, true, true, true, false] rfl rfl (any_of HT_.out (by kernel_rfl)) (fun _ _ _ h => h) (Or.inl ⟨by rfl, ?_⟩) ?_ ?_
        rotate_left
        ·intro w'
         go_simp
         with_reducible rfl
        rotate_left
        ·simp only [Act.put, List.setIfInBounds_toArray, List.set_cons_zero, List.set_cons_succ, i64_w, i32_w]
         rfl
        refine last_ (i := 9) (N := none) #[true, true, true, true, true, true, true, true, true, true] rfl rfl (one_of HT_.out (by kernel_rfl)) (by decide) (fun K hK => ?_)
        have hs58 : w57.cell? ⟨gb496, 2, none⟩ = some (.int .i64 x497002_3) := (blk_cell BK496.out 2).trans rfl
        have hfs58 := blk_frozen BK496.out 2
        have hns58_0 := NB486_496.out
        have hns58_2 := NB498_496.out
        have hms58_0 := NB496_486.out
        have hms58_2 := NB496_498.out
        refine skip_ (w1 := ?_) (by rfl) rfl ?_ ?_
        rotate_left
        ·go_simp
         rfl
        refine hK.out _ _ ?_
        clear hK K
        refine done_ (done_of HT_.out (by kernel_rfl)) ?_
        try go_wp2
        go_roundg k3
        case measure => have := HK1.out; have := HK2.out; have := HK3.out; omega
        case rel => exact ⟨(wrap64 (x47_3 + 1)), (x497000_3), (x497001_3), (wrap64 (x497002_3 + (rd t489 x42_2))), tQ, H', ⟨by have := HK1.out; have := HK2.out; have := HK3.out; omega⟩, ⟨by (with_reducible repeat (first | apply Kd.R_alloc | apply Kd.R_drewN | apply Kd.R_drew)); exact Kd.R_mono (Kd.R_far (p := ⟨gb496, 2, none⟩) (Kd.R_types HO_6.out BK496.out (by decide)) (fun _ hk => hk.2) (.int .i64 (wrap64 (x497002_3 + (rd t489 x42_2))))) (fun _ hk => trivial)⟩, ⟨by (with_reducible repeat (first | apply Kd.R_alloc | apply Kd.R_drewN | apply Kd.R_drew)); exact Kd.R_mono (Kd.R_far (p := ⟨gb496, 2, none⟩) (Kd.R_mono HO_7.out (fun k_ hk => (⟨hk, hk⟩ : _ ∧ k_ ≠ gb496))) (fun _ hk => hk.2) (.int .i64 (wrap64 (x497002_3 + (rd t489 x42_2))))) (fun _ hk => hk.1)⟩, ⟨by (with_reducible repeat (first | refine blk_drewN ?_ _ | refine blk_drew ?_ | refine blk_alloc ?_ _)); refine blk_far ?_ NB486_496.out _; (with_reducible repeat (first | refine blk_drewN ?_ _ | refine blk_drew ?_ | refine blk_alloc ?_ _)); exact BK486.out⟩, ⟨by (with_reducible repeat (first | refine blk_drewN ?_ _ | refine blk_drew ?_ | refine blk_alloc ?_ _)); refine blk_put (cs := #[.int .i64 x497000_3, .int .i64 x497001_3, .int .i64 x497002_3]) ?_ 2 _ rfl; (with_reducible repeat (first | refine blk_drewN ?_ _ | refine blk_drew ?_ | refine blk_alloc ?_ _)); exact BK496.out⟩, ⟨by (with_reducible repeat (first | refine blk_drewN ?_ _ | refine blk_drew ?_ | refine blk_alloc ?_ _)); refine blk_far ?_ NB498_496.out _; (with_reducible repeat (first | refine blk_drewN ?_ _ | refine blk_drew ?_ | refine blk_alloc ?_ _)); exact BK498.out⟩, ⟨kB3 HB GE486 GE496 GE498⟩⟩
     rw [if_neg c23] at H
     have c23b0 : decide (x42_2 < (l0_3.length : Int)) = false := decide_eq_false c23
     clear c23
     have H' := Aside0.mk H
     clear H
     have hnb65 := NB486_496.out
     have hnc65 := NB496_486.out
     obtain ⟨⟨hcz66_0, hcz66_1, hcz66_2, hcz66_3, hcz66_4⟩, hfz66_0, hfz66_1, hfz66_2, hfz66_3, hfz66_4⟩ := bx5 BK486
     go_wp2
     go_loopg [76] k2 (fun kq v76 w' => ∃ (x76_3 : Int) (x497000_3 : Int) (x497001_3 : Int) (x497002_3 : Int), v76 = .int .i64 x76_3 ∧ Aside0 (w08_TreeSums.l3 kq t487 t489 t492 x36_1 (l0_0.length : Int) x36_1 l0_0 (l0_0.length : Int) x76_3 l0_0 l0_1 l0_2 l0_3 l0_4 x497000_3 x497001_3 x497002_3 = some r) ∧ Aside0 (kq ≤ k2) ∧ Aside0 (Kd.R (Kd.int .i64) 3 w' w.heap.size (fun _ => True) (.slice Ao16 t489.length co16) t489) ∧ Aside0 (Kd.R k55 55 w' w.heap.size (fun k_ => k_ ≠ gb496) v493 t492) ∧ Aside0 (w'.heap[gb486]? = some (.cells #[(.slice A0_0 l0_0.length c0_0), (.slice A0_1 l0_1.length c0_1), (.slice A0_2 l0_2.length c0_2), (.slice A0_3 l0_3.length c0_3), (.slice A0_4 l0_4.length c0_4)] 28 (0, 0))) ∧ Aside0 (w'.heap[gb496]? = some (.cells #[.int .i64 x497000_3, .int .i64 x497001_3, .int .i64 x497002_3] 55 (0, 0))) ∧ Aside0 (Below w.heap.size w w'))
     case atStart => exact ⟨(0), (x497000_2), (x497001_2), (x497002_2), tQ, H', ⟨Nat.le_refl _⟩, ⟨kR HO_6⟩, ⟨kR HO_7⟩, ⟨kK BK486⟩, ⟨kK BK496⟩, ⟨kB2 HB GE486 GE496⟩⟩
     case round =>
      clear H'
      obtain ⟨x76_3, x497000_3, x497001_3, x497002_3, rfl, HA, HK3, HO_6, HO_7, BK486, BK496, HB⟩ := hrel
      cases gk with
      | zero => exact absurd HA.out (by simp [w08_TreeSums.l3])
      | succ k3 =>
       have H := HA.out
       clear HA
       simp only [w08_TreeSums.l3] at H
       by_cases c67 : x76_3 < (l0_0.length : Int)
       rotate_left
       ·rw [if_neg c67] at H
        have c67b0 : decide (x76_3 < (l0_0.length : Int)) = false := decide_eq_false c67
        clear c67
        by_cases c106 : 0 ≤ x36_1
        rotate_left
        ·rw [if_neg c106] at H
         exact absurd H (by simp)
        rw [if_pos c106] at H
        have c106b0 : decide (0 ≤ x36_1) = true := decide_eq_true c106
        clear c106
        by_cases c107 : x36_1 < (t492.length : Int)
        rotate_left
        ·rw [if_neg c107] at H
         exact absurd H (by simp)
        rw [if_pos c107] at H
        have c107b0 : decide (x36_1 < (t492.length : Int)) = true := decide_eq_true c107
        clear c107
        by_cases c108 : (!(((rd_T55 t492 x36_1).f0) == x497000_3) || (!(((rd_T55 t492 x36_1).f1) == x497001_3) || (!(((rd_T55 t492 x36_1).f2) == x497002_3)))) = true
        ·rw [if_pos c108] at H
         have c108b0 : (!(((rd_T55 t492 x36_1).f0) == x497000_3) || (!(((rd_T55 t492 x36_1).f1) == x497001_3) || (!(((rd_T55 t492 x36_1).f2) == x497002_3)))) = true := c108
         clear c108
         obtain rfl := Option.some.inj H
         try go_wp2
         have n0_ := Aside0.mk (Kd.R_drew HO_6.out)
         have n1_ := Aside0.mk (Kd.R_drew HO_7.out)
         have n2_ := Aside0.mk (blk_drew BK486.out)
         have n3_ := Aside0.mk (blk_drew BK496.out)
         have n4_ := Aside0.mk (below_drew1 HB.out)
         clear HO_6
         clear HO_7
         clear BK486
         clear BK496
         clear HB
         have HO_6 := n0_
         have HO_7 := n1_
         have BK486 := n2_
         have BK496 := n3_
         have HB := n4_
         clear n0_ n1_ n2_ n3_ n4_
         obtain ⟨Ao110, co110, eo110⟩ := Kd.R_slice HO_7.out
         (first | subst eo110 | (injection eo110 with f1_ f2_ f3_; have f4_ := f1_.symm; have f5_ := f3_.symm; clear f1_ f2_ f3_; subst f4_; subst f5_))
         have p502 : 0 ≤ (x36_1 : Int) := tD
         have q502 : x36_1 < (t492.length : Int) := tD
         obtain ⟨ad502, e502, hx502_0, hx502_1, hx502_2⟩ := at_T55 (Kd.R_reads' HO_7.out).2.2 x36_1 p502 q502
         cases e502
         replace p502 := eq_true p502
         replace q502 := eq_true q502
         refine start_ (n := 6) (S := fun w' => w'.cell? ⟨gb496, 0, none⟩ = some (.int .i64 x497000_3) ∧ w'.cell? ⟨gb496, 1, none⟩ = some (.int .i64 x497001_3) ∧ w'.cell? ⟨gb496, 2, none⟩ = some (.int .i64 x497002_3) ∧ w'.cell? (ad502.add ((x36_1).toNat * 3)) = some (.int .i64 ((rd_T55 t492 x36_1).f0)) ∧ w'.cell? ⟨(ad502.add ((x36_1).toNat * 3)).block, (ad502.add ((x36_1).toNat * 3)).off + 1, none⟩ = some (.int .i64 ((rd_T55 t492 x36_1).f1)) ∧ w'.cell? ⟨(ad502.add ((x36_1).toNat * 3)).block, (ad502.add ((x36_1).toNat * 3)).off + 2, none⟩ = some (.int .i64 ((rd_T55 t492 x36_1).f2))) (ds := []) #[false, false, false, false, false, false] (by kernel_rfl) rfl rfl ⟨(blk_cell BK496.out 0).trans rfl, (blk_cell BK496.out 1).trans rfl, (blk_cell BK496.out 2).trans rfl, hx502_0, hx502_1, hx502_2⟩ (fun hHeld => ?_)
         generalize wr.drew = w109 at HO_6 HO_7 BK486 BK496 HB hx502_0 hx502_1 hx502_2 hHeld ⊢
         refine pure_ (i := 0) (N := some 101) (v := ?_) (a' := ?_) #[true, false, false, false, false, false] rfl rfl (by kernel_rfl) (fun _ _ _ h => h) (Or.inl ⟨by rfl, ?_⟩) ?_ ?_
         rotate_left
         ·intro w'
          go_simp
          with_reducible rfl
         rotate_left
         ·simp only [Act.put, List.setIfInBounds_toArray, List.set_cons_zero, List.set_cons_succ, i64_w, i32_w]
          rfl
         refine pure_ (i := 1) (N := some 102) (v := ?_) (a' := ?_) #[true, true, false, false, false, false] rfl rfl (by kernel_rfl) (fun _ _ _ h => h) (Or.inl ⟨by rfl, ?_⟩) ?_ ?_
         rotate_left
         ·intro w'
          go_simp
          with_reducible rfl
         rotate_left
         ·simp only [Act.put, List.setIfInBounds_toArray, List.set_cons_zero, List.set_cons_succ, i64_w, i32_w]
          rfl
         refine pure_ (i := 2) (N := some 103) (v := ?_) (a' := ?_) #[true, true, true, false, false, false] rfl rfl (by kernel_rfl) (fun _ _ _ h => h) (Or.inl ⟨by rfl, ?_⟩) ?_ ?_
         rotate_left
         ·intro w'
          go_simp
          with_reducible rfl
         rotate_left
         ·simp only [Act.put, List.setIfInBounds_toArray, List.set_cons_zero, List.set_cons_succ, i64_w, i32_w]
          rfl
         refine take_ (i := 3) (N := some 104) (v := ?_) (a' := ?_) #[true, true, true, true, false, false] rfl rfl (by kernel_rfl) (fun _ _ _ h => h) (Or.inl ⟨by rfl, ?_⟩) hHeld ?_ ?_
         rotate_left
         ·rintro w' ⟨s0, s1, s2, s3, s4, s5⟩
          go_simp
          with_reducible rfl
         rotate_left
         ·simp only [Act.put, List.setIfInBounds_toArray, List.set_cons_zero, List.set_cons_succ, i64_w, i32_w]
          rfl
         refine take_ (i := 4) (N := some 105) (v := ?_) (a' := ?_) #[true, true, true, true, true, false] rfl rfl (by kernel_rfl) (fun _ _ _ h => h) (Or.inl ⟨by rfl, ?_⟩) hHeld ?_ ?_
         rotate_left
         ·rintro w' ⟨s0, s1, s2, s3, s4, s5⟩
          go_simp
          with_reducible rfl
         rotate_left
         ·simp only [Act.put, List.setIfInBounds_toArray, List.set_cons_zero, List.set_cons_succ, i64_w, i32_w]
          rfl
         refine pure_ (i := 5) (N := some 106) (v := ?_) (a' := ?_) #[true, true, true, true, true, true] rfl rfl (by kernel_rfl) (fun _ _ _ h => h) (Or.inl ⟨by rfl, ?_⟩) ?_ ?_
         rotate_left
         ·intro w'
          go_simp
          with_reducible rfl
         rotate_left
         ·simp only [Act.put, List.setIfInBounds_toArray, List.set_cons_zero, List.set_cons_succ, i64_w, i32_w]
          rfl
         refine done_ (by kernel_rfl) ?_
         try go_wp2
         go_ret
         exact ⟨by first | rfl | (simp [errW_none, errW_some] <;> rfl) | (simp [*, errW_none, errW_some] <;> rfl), kB2 HB GE486 GE496⟩
        rw [if_neg c108] at H
        have c108b0 : (!(((rd_T55 t492 x36_1).f0) == x497000_3) || (!(((rd_T55 t492 x36_1).f1) == x497001_3) || (!(((rd_T55 t492 x36_1).f2) == x497002_3)))) = false := by simpa using c108
        clear c108
        have H' := Aside0.mk H
        clear H
        try go_wp2
        have n0_ := Aside0.mk (Kd.R_drew HO_6.out)
        have n1_ := Aside0.mk (Kd.R_drew HO_7.out)
        have n2_ := Aside0.mk (blk_drew BK486.out)
        have n3_ := Aside0.mk (blk_drew BK496.out)
        have n4_ := Aside0.mk (below_drew1 HB.out)
        clear HO_6
        clear HO_7
        clear BK486
        clear BK496
        clear HB
        have HO_6 := n0_
        have HO_7 := n1_
        have BK486 := n2_
        have BK496 := n3_
        have HB := n4_
        clear n0_ n1_ n2_ n3_ n4_
        obtain ⟨Ao112, co112, eo112⟩ := Kd.R_slice HO_7.out
        (first | subst eo112 | (injection eo112 with f1_ f2_ f3_; have f4_ := f1_.symm; have f5_ := f3_.symm; clear f1_ f2_ f3_; subst f4_; subst f5_))
        have p502 : 0 ≤ (x36_1 : Int) := tD
        have q502 : x36_1 < (t492.length : Int) := tD
        obtain ⟨ad502, e502, hx502_0, hx502_1, hx502_2⟩ := at_T55 (Kd.R_reads' HO_7.out).2.2 x36_1 p502 q502
        cases e502
        replace p502 := eq_true p502
        replace q502 := eq_true q502
        refine start_ (n := 6) (S := fun w' => w'.cell? ⟨gb496, 0, none⟩ = some (.int .i64 x497000_3) ∧ w'.cell? ⟨gb496, 1, none⟩ = some (.int .i64 x497001_3) ∧ w'.cell? ⟨gb496, 2, none⟩ = some (.int .i64 x497002_3) ∧ w'.cell? (ad502.add ((x36_1).toNat * 3)) = some (.int .i64 ((rd_T55 t492 x36_1).f0)) ∧ w'.cell? ⟨(ad502.add ((x36_1).toNat * 3)).block, (ad502.add ((x36_1).toNat * 3)).off + 1, none⟩ = some (.int .i64 ((rd_T55 t492 x36_1).f1)) ∧ w'.cell? ⟨(ad502.add ((x36_1).toNat * 3)).block, (ad502.add ((x36_1).toNat * 3)).off + 2, none⟩ = some (.int .i64 ((rd_T55 t492 x36_1).f2))) (ds := []) #[false, false, false, false, false, false] (by kernel_rfl) rfl rfl ⟨(blk_cell BK496.out 0).trans rfl, (blk_cell BK496.out 1).trans rfl, (blk_cell BK496.out 2).trans rfl, hx502_0, hx502_1, hx502_2⟩ (fun hHeld => ?_)
        generalize wr.drew = w111 at HO_6 HO_7 BK486 BK496 HB hx502_0 hx502_1 hx502_2 hHeld ⊢
        refine pure_ (i := 0) (N := some 101) (v := ?_) (a' := ?_) #[true, false, false, false, false, false] rfl rfl (by kernel_rfl) (fun _ _ _ h => h) (Or.inl ⟨by rfl, ?_⟩) ?_ ?_
        rotate_left
        ·intro w'
         go_simp
         with_reducible rfl
        rotate_left
        ·simp only [Act.put, List.setIfInBounds_toArray, List.set_cons_zero, List.set_cons_succ, i64_w, i32_w]
         rfl
        refine pure_ (i := 1) (N := some 102) (v := ?_) (a' := ?_) #[true, true, false, false, false, false] rfl rfl (by kernel_rfl) (fun _ _ _ h => h) (Or.inl ⟨by rfl, ?_⟩) ?_ ?_
        rotate_left
        ·intro w'
         go_simp
         with_reducible rfl
        rotate_left
        ·simp only [Act.put, List.setIfInBounds_toArray, List.set_cons_zero, List.set_cons_succ, i64_w, i32_w]
         rfl
        refine pure_ (i := 2) (N := some 103) (v := ?_) (a' := ?_) #[true, true, true, false, false, false] rfl rfl (by kernel_rfl) (fun _ _ _ h => h) (Or.inl ⟨by rfl, ?_⟩) ?_ ?_
        rotate_left
        ·intro w'
         go_simp
         with_reducible rfl
        rotate_left
        ·simp only [Act.put, List.setIfInBounds_toArray, List.set_cons_zero, List.set_cons_succ, i64_w, i32_w]
         rfl
        refine take_ (i := 3) (N := some 104) (v := ?_) (a' := ?_) #[true, true, true, true, false, false] rfl rfl (by kernel_rfl) (fun _ _ _ h => h) (Or.inl ⟨by rfl, ?_⟩) hHeld ?_ ?_
        rotate_left
        ·rintro w' ⟨s0, s1, s2, s3, s4, s5⟩
         go_simp
         with_reducible rfl
        rotate_left
        ·simp only [Act.put, List.setIfInBounds_toArray, List.set_cons_zero, List.set_cons_succ, i64_w, i32_w]
         rfl
        refine take_ (i := 4) (N := some 105) (v := ?_) (a' := ?_) #[true, true, true, true, true, false] rfl rfl (by kernel_rfl) (fun _ _ _ h => h) (Or.inl ⟨by rfl, ?_⟩) hHeld ?_ ?_
        rotate_left
        ·rintro w' ⟨s0, s1, s2, s3, s4, s5⟩
         go_simp
         with_reducible rfl
        rotate_left
        ·simp only [Act.put, List.setIfInBounds_toArray, List.set_cons_zero, List.set_cons_succ, i64_w, i32_w]
         rfl
        refine pure_ (i := 5) (N := some 106) (v := ?_) (a' := ?_) #[true, true, true, true, true, true] rfl rfl (by kernel_rfl) (fun _ _ _ h => h) (Or.inl ⟨by rfl, ?_⟩) ?_ ?_
        rotate_left
        ·intro w'
         go_simp
         with_reducible rfl
        rotate_left
        ·simp only [Act.put, List.setIfInBounds_toArray, List.set_cons_zero, List.set_cons_succ, i64_w, i32_w]
         rfl
        refine done_ (by kernel_rfl) ?_
        try go_wp2
        go_roundg k3
        case measure => have := HK1.out; have := HK2.out; have := HK3.out; omega
        case rel => exact ⟨(wrap64 (x36_1 + 1)), tQ, H', ⟨by have := HK1.out; have := HK2.out; have := HK3.out; omega⟩, ⟨kR HO_6⟩, ⟨by (with_reducible repeat (first | apply Kd.R_alloc | apply Kd.R_drewN | apply Kd.R_drew)); exact Kd.R_mono HO_7.out (fun _ hk => trivial)⟩, ⟨kK BK486⟩, ⟨kB2 HB GE486 GE496⟩⟩
       rw [if_pos c67] at H
       have c67b0 : decide (x76_3 < (l0_0.length : Int)) = true := decide_eq_true c67
       clear c67
       by_cases c68 : 0 ≤ x76_3
       rotate_left
       ·rw [if_neg c68] at H
        exact absurd H (by simp)
       rw [if_pos c68] at H
       have c68b0 : decide (0 ≤ x76_3) = true := decide_eq_true c68
       clear c68
       by_cases c69 : x76_3 < (l0_0.length : Int)
       rotate_left
       ·rw [if_neg c69] at H
        exact absurd H (by simp)
       rw [if_pos c69] at H
       have c69b0 : decide (x76_3 < (l0_0.length : Int)) = true := decide_eq_true c69
       clear c69
       have H' := Aside0.mk H
       clear H
       have p503 : 0 ≤ (x76_3 : Int) := tD
       have q503 : x76_3 < (l0_0.length : Int) := tD
       obtain ⟨ad503, e503, hx503_0, hx503_1, hx503_2, hx503_3, hx503_4, hx503_5, hx503_6, hx503_7, hx503_8, hx503_9, hx503_10⟩ := at_T48 HR0_0.out x76_3 p503 q503
       cases e503
       replace hx503_0 := cB HB hx503_0
       replace hx503_1 := cB HB hx503_1
       replace hx503_2 := cB HB hx503_2
       replace hx503_3 := cB HB hx503_3
       replace hx503_4 := cB HB hx503_4
       replace hx503_5 := cB HB hx503_5
       replace hx503_6 := cB HB hx503_6
       replace hx503_7 := cB HB hx503_7
       replace hx503_8 := cB HB hx503_8
       replace hx503_9 := cB HB hx503_9
       replace hx503_10 := cB HB hx503_10
       replace p503 := eq_true p503
       replace q503 := eq_true q503
       go_wp2_with (first | ((with_reducible refine gate_dst (N := 15) rfl ?_); refine box_event ?hg (N := 15) ?hd (cs := #[.string (⟨#[]⟩ : ByteArray), .int .i64 0, .int .i64 0, .int .i64 0, .int .i64 0, .int .i64 0, .int .i64 0, .int .i64 0, .int .i64 0, .int .i64 0, .int .i64 0]) (t := 48) ?hr ?_; (case hd => rfl); (case hg => rfl); (case hr => first | (go_simp; done) | (go_simp; rfl)); intro gb504 hg w70 hbox hb; have n0_ := Aside0.mk (Kd.R_below (kR HO_6) hb); have n1_ := Aside0.mk (Kd.R_below (kR HO_7) hb); have n2_ := Aside0.mk (blk_below (g := gb486) (o := .cells #[.slice (some ad503) l0_0.length c0_0, .slice A0_1 l0_1.length c0_1, .slice A0_2 l0_2.length c0_2, .slice A0_3 l0_3.length c0_3, .slice A0_4 l0_4.length c0_4] 28 (0, 0)) (kK BK486) hb); have n3_ := Aside0.mk (blk_below (g := gb496) (o := .cells #[.int .i64 x497000_3, .int .i64 x497001_3, .int .i64 x497002_3] 55 (0, 0)) (kK BK496) hb); have n4_ := Aside0.mk (below_step (kB2 HB GE486 GE496) hb); have n5_ := Aside0.mk (hbox); have n6_ := Aside0.mk ((by rw [hg]; exact (below_size (kB2 HB GE486 GE496)) : w.heap.size ≤ gb504)); have n7_ := Aside0.mk ((by rw [hg]; exact (below_size (kB2 HB GE486 GE496)) : w.heap.size ≤ gb504)); have n8_ := Aside0.mk ((by rw [hg]; exact Nat.ne_of_lt (blk_lt (g := gb486) (o := .cells #[.slice (some ad503) l0_0.length c0_0, .slice A0_1 l0_1.length c0_1, .slice A0_2 l0_2.length c0_2, .slice A0_3 l0_3.length c0_3, .slice A0_4 l0_4.length c0_4] 28 (0, 0)) (kK BK486)) : gb486 ≠ gb504)); have n9_ := Aside0.mk ((by rw [hg]; exact Nat.ne_of_gt (blk_lt (g := gb486) (o := .cells #[.slice (some ad503) l0_0.length c0_0, .slice A0_1 l0_1.length c0_1, .slice A0_2 l0_2.length c0_2, .slice A0_3 l0_3.length c0_3, .slice A0_4 l0_4.length c0_4] 28 (0, 0)) (kK BK486)) : gb504 ≠ gb486)); have n10_ := Aside0.mk ((by rw [hg]; exact Nat.ne_of_lt (blk_lt (g := gb496) (o := .cells #[.int .i64 x497000_3, .int .i64 x497001_3, .int .i64 x497002_3] 55 (0, 0)) (kK BK496)) : gb496 ≠ gb504)); have n11_ := Aside0.mk ((by rw [hg]; exact Nat.ne_of_gt (blk_lt (g := gb496) (o := .cells #[.int .i64 x497000_3, .int .i64 x497001_3, .int .i64 x497002_3] 55 (0, 0)) (kK BK496)) : gb504 ≠ gb496)); clear HO_6; clear HO_7; clear BK486; clear BK496; clear HB; have HO_6 := n0_; have HO_7 := n1_; have BK486 := n2_; have BK496 := n3_; have HB := n4_; have BK504 := n5_; have GW504 := n6_; have GE504 := n7_; have NB486_504 := n8_; have NB504_486 := n9_; have NB496_504 := n10_; have NB504_496 := n11_; clear n0_ n1_ n2_ n3_ n4_ n5_ n6_ n7_ n8_ n9_ n10_ n11_; clear hb hbox hg; have hnb71 := NB504_486.out; have hnc71 := NB486_504.out; have hnb72 := NB504_496.out; have hnc72 := NB496_504.out; obtain ⟨⟨hcz73_0, hcz73_1, hcz73_2, hcz73_3, hcz73_4, hcz73_5, hcz73_6, hcz73_7, hcz73_8, hcz73_9, hcz73_10⟩, hfz73_0, hfz73_1, hfz73_2, hfz73_3, hfz73_4, hfz73_5, hfz73_6, hfz73_7, hfz73_8, hfz73_9, hfz73_10⟩ := bx11 BK504))
       go_loopg [81] k3 (fun kq v81 w' => ∃ (x81_4 : Int) (x497000_4 : Int) (x497001_4 : Int) (x497002_4 : Int), v81 = .int .i64 x81_4 ∧ Aside0 (w08_TreeSums.l4 kq t487 t489 t492 x36_1 x76_3 (l0_0.length : Int) x36_1 l0_0 (l0_0.length : Int) x76_3 x81_4 l0_0 l0_1 l0_2 l0_3 l0_4 x497000_4 x497001_4 x497002_4 ((rd_T48 l0_0 x76_3).f0) ((rd_T48 l0_0 x76_3).f1) ((rd_T48 l0_0 x76_3).f2) ((rd_T48 l0_0 x76_3).f3) ((rd_T48 l0_0 x76_3).f4.f0) ((rd_T48 l0_0 x76_3).f4.f1) ((rd_T48 l0_0 x76_3).f5.f0) ((rd_T48 l0_0 x76_3).f5.f1) ((rd_T48 l0_0 x76_3).f5.f2) ((rd_T48 l0_0 x76_3).f5.f3) ((rd_T48 l0_0 x76_3).f5.f4) = some r) ∧ Aside0 (kq ≤ k3) ∧ Aside0 (Kd.R (Kd.int .i64) 3 w' w.heap.size (fun _ => True) (.slice Ao16 t489.length co16) t489) ∧ Aside0 (Kd.R k55 55 w' w.heap.size (fun k_ => k_ ≠ gb496) v493 t492) ∧ Aside0 (w'.heap[gb486]? = some (.cells #[(.slice (some ad503) l0_0.length c0_0), (.slice A0_1 l0_1.length c0_1), (.slice A0_2 l0_2.length c0_2), (.slice A0_3 l0_3.length c0_3), (.slice A0_4 l0_4.length c0_4)] 28 (0, 0))) ∧ Aside0 (w'.heap[gb496]? = some (.cells #[.int .i64 x497000_4, .int .i64 x497001_4, .int .i64 x497002_4] 55 (0, 0))) ∧ Aside0 (w'.heap[gb504]? = some (.cells #[.string ((rd_T48 l0_0 x76_3).f0), .int .i64 ((rd_T48 l0_0 x76_3).f1), .int .i64 ((rd_T48 l0_0 x76_3).f2), .int .i64 ((rd_T48 l0_0 x76_3).f3), .int .i64 ((rd_T48 l0_0 x76_3).f4.f0), .int .i64 ((rd_T48 l0_0 x76_3).f4.f1), .int .i64 ((rd_T48 l0_0 x76_3).f5.f0), .int .i64 ((rd_T48 l0_0 x76_3).f5.f1), .int .i64 ((rd_T48 l0_0 x76_3).f5.f2), .int .i64 ((rd_T48 l0_0 x76_3).f5.f3), .int .i64 ((rd_T48 l0_0 x76_3).f5.f4)] 48 (0, 0))) ∧ Aside0 (Below w.heap.size w w'))
       case atStart => exact ⟨(0), (x497000_3), (x497001_3), (x497002_3), tQ, H', ⟨Nat.le_refl _⟩, ⟨by (with_reducible repeat (first | apply Kd.R_alloc | apply Kd.R_drewN | apply Kd.R_drew)); exact Kd.R_mono (Kd.R_far (p := ⟨gb504, 10, none⟩) (Kd.R_far (p := ⟨gb504, 9, none⟩) (Kd.R_far (p := ⟨gb504, 8, none⟩) (Kd.R_far (p := ⟨gb504, 7, none⟩) (Kd.R_far (p := ⟨gb504, 6, none⟩) (Kd.R_far (p := ⟨gb504, 5, none⟩) (Kd.R_far (p := ⟨gb504, 4, none⟩) (Kd.R_far (p := ⟨gb504, 3, none⟩) (Kd.R_far (p := ⟨gb504, 2, none⟩) (Kd.R_far (p := ⟨gb504, 1, none⟩) (Kd.R_far (p := ⟨gb504, 0, none⟩) (Kd.R_types HO_6.out BK504.out (by decide)) (fun _ hk => hk.2) (.string ((rd_T48 l0_0 x76_3).f0))) (fun _ hk => hk.2) (.int .i64 ((rd_T48 l0_0 x76_3).f1))) (fun _ hk => hk.2) (.int .i64 ((rd_T48 l0_0 x76_3).f2))) (fun _ hk => hk.2) (.int .i64 ((rd_T48 l0_0 x76_3).f3))) (fun _ hk => hk.2) (.int .i64 ((rd_T48 l0_0 x76_3).f4.f0))) (fun _ hk => hk.2) (.int .i64 ((rd_T48 l0_0 x76_3).f4.f1))) (fun _ hk => hk.2) (.int .i64 ((rd_T48 l0_0 x76_3).f5.f0))) (fun _ hk => hk.2) (.int .i64 ((rd_T48 l0_0 x76_3).f5.f1))) (fun _ hk => hk.2) (.int .i64 ((rd_T48 l0_0 x76_3).f5.f2))) (fun _ hk => hk.2) (.int .i64 ((rd_T48 l0_0 x76_3).f5.f3))) (fun _ hk => hk.2) (.int .i64 ((rd_T48 l0_0 x76_3).f5.f4))) (fun _ hk => trivial)⟩, ⟨by (with_reducible repeat (first | apply Kd.R_alloc | apply Kd.R_drewN | apply Kd.R_drew)); exact Kd.R_mono (Kd.R_far (p := ⟨gb504, 10, none⟩) (Kd.R_far (p := ⟨gb504, 9, none⟩) (Kd.R_far (p := ⟨gb504, 8, none⟩) (Kd.R_far (p := ⟨gb504, 7, none⟩) (Kd.R_far (p := ⟨gb504, 6, none⟩) (Kd.R_far (p := ⟨gb504, 5, none⟩) (Kd.R_far (p := ⟨gb504, 4, none⟩) (Kd.R_far (p := ⟨gb504, 3, none⟩) (Kd.R_far (p := ⟨gb504, 2, none⟩) (Kd.R_far (p := ⟨gb504, 1, none⟩) (Kd.R_far (p := ⟨gb504, 0, none⟩) (Kd.R_types HO_7.out BK504.out (by decide)) (fun _ hk => hk.2) (.string ((rd_T48 l0_0 x76_3).f0))) (fun _ hk => hk.2) (.int .i64 ((rd_T48 l0_0 x76_3).f1))) (fun _ hk => hk.2) (.int .i64 ((rd_T48 l0_0 x76_3).f2))) (fun _ hk => hk.2) (.int .i64 ((rd_T48 l0_0 x76_3).f3))) (fun _ hk => hk.2) (.int .i64 ((rd_T48 l0_0 x76_3).f4.f0))) (fun _ hk => hk.2) (.int .i64 ((rd_T48 l0_0 x76_3).f4.f1))) (fun _ hk => hk.2) (.int .i64 ((rd_T48 l0_0 x76_3).f5.f0))) (fun _ hk => hk.2) (.int .i64 ((rd_T48 l0_0 x76_3).f5.f1))) (fun _ hk => hk.2) (.int .i64 ((rd_T48 l0_0 x76_3).f5.f2))) (fun _ hk => hk.2) (.int .i64 ((rd_T48 l0_0 x76_3).f5.f3))) (fun _ hk => hk.2) (.int .i64 ((rd_T48 l0_0 x76_3).f5.f4))) (fun _ hk => hk.1)⟩, ⟨by (with_reducible repeat (first | refine blk_drewN ?_ _ | refine blk_drew ?_ | refine blk_alloc ?_ _)); refine blk_far ?_ NB486_504.out _; (with_reducible repeat (first | refine blk_drewN ?_ _ | refine blk_drew ?_ | refine blk_alloc ?_ _)); refine blk_far ?_ NB486_504.out _; (with_reducible repeat (first | refine blk_drewN ?_ _ | refine blk_drew ?_ | refine blk_alloc ?_ _)); refine blk_far ?_ NB486_504.out _; (with_reducible repeat (first | refine blk_drewN ?_ _ | refine blk_drew ?_ | refine blk_alloc ?_ _)); refine blk_far ?_ NB486_504.out _; (with_reducible repeat (first | refine blk_drewN ?_ _ | refine blk_drew ?_ | refine blk_alloc ?_ _)); refine blk_far ?_ NB486_504.out _; (with_reducible repeat (first | refine blk_drewN ?_ _ | refine blk_drew ?_ | refine blk_alloc ?_ _)); refine blk_far ?_ NB486_504.out _; (with_reducible repeat (first | refine blk_drewN ?_ _ | refine blk_drew ?_ | refine blk_alloc ?_ _)); refine blk_far ?_ NB486_504.out _; (with_reducible repeat (first | refine blk_drewN ?_ _ | refine blk_drew ?_ | refine blk_alloc ?_ _)); refine blk_far ?_ NB486_504.out _; (with_reducible repeat (first | refine blk_drewN ?_ _ | refine blk_drew ?_ | refine blk_alloc ?_ _)); refine blk_far ?_ NB486_504.out _; (with_reducible repeat (first | refine blk_drewN ?_ _ | refine blk_drew ?_ | refine blk_alloc ?_ _)); refine blk_far ?_ NB486_504.out _; (with_reducible repeat (first | refine blk_drewN ?_ _ | refine blk_drew ?_ | refine blk_alloc ?_ _)); refine blk_far ?_ NB486_504.out _; (with_reducible repeat (first | refine blk_drewN ?_ _ | refine blk_drew ?_ | refine blk_alloc ?_ _)); exact BK486.out⟩, ⟨by (with_reducible repeat (first | refine blk_drewN ?_ _ | refine blk_drew ?_ | refine blk_alloc ?_ _)); refine blk_far ?_ NB496_504.out _; (with_reducible repeat (first | refine blk_drewN ?_ _ | refine blk_drew ?_ | refine blk_alloc ?_ _)); refine blk_far ?_ NB496_504.out _; (with_reducible repeat (first | refine blk_drewN ?_ _ | refine blk_drew ?_ | refine blk_alloc ?_ _)); refine blk_far ?_ NB496_504.out _; (with_reducible repeat (first | refine blk_drewN ?_ _ | refine blk_drew ?_ | refine blk_alloc ?_ _)); refine blk_far ?_ NB496_504.out _; (with_reducible repeat (first | refine blk_drewN ?_ _ | refine blk_drew ?_ | refine blk_alloc ?_ _)); refine blk_far ?_ NB496_504.out _; (with_reducible repeat (first | refine blk_drewN ?_ _ | refine blk_drew ?_ | refine blk_alloc ?_ _)); refine blk_far ?_ NB496_504.out _; (with_reducible repeat (first | refine blk_drewN ?_ _ | refine blk_drew ?_ | refine blk_alloc ?_ _)); refine blk_far ?_ NB496_504.out _; (with_reducible repeat (first | refine blk_drewN ?_ _ | refine blk_drew ?_ | refine blk_alloc ?_ _)); refine blk_far ?_ NB496_504.out _; (with_reducible repeat (first | refine blk_drewN ?_ _ | refine blk_drew ?_ | refine blk_alloc ?_ _)); refine blk_far ?_ NB496_504.out _; (with_reducible repeat (first | refine blk_drewN ?_ _ | refine blk_drew ?_ | refine blk_alloc ?_ _)); refine blk_far ?_ NB496_504.out _; (with_reducible repeat (first | refine blk_drewN ?_ _ | refine blk_drew ?_ | refine blk_alloc ?_ _)); refine blk_far ?_ NB496_504.out _; (with_reducible repeat (first | refine blk_drewN ?_ _ | refine blk_drew ?_ | refine blk_alloc ?_ _)); exact BK496.out⟩, ⟨by (with_reducible repeat (first | refine blk_drewN ?_ _ | refine blk_drew ?_ | refine blk_alloc ?_ _)); refine blk_put (cs := #[.string ((rd_T48 l0_0 x76_3).f0), .int .i64 ((rd_T48 l0_0 x76_3).f1), .int .i64 ((rd_T48 l0_0 x76_3).f2), .int .i64 ((rd_T48 l0_0 x76_3).f3), .int .i64 ((rd_T48 l0_0 x76_3).f4.f0), .int .i64 ((rd_T48 l0_0 x76_3).f4.f1), .int .i64 ((rd_T48 l0_0 x76_3).f5.f0), .int .i64 ((rd_T48 l0_0 x76_3).f5.f1), .int .i64 ((rd_T48 l0_0 x76_3).f5.f2), .int .i64 ((rd_T48 l0_0 x76_3).f5.f3), .int .i64 0]) ?_ 10 _ rfl; (with_reducible repeat (first | refine blk_drewN ?_ _ | refine blk_drew ?_ | refine blk_alloc ?_ _)); refine blk_put (cs := #[.string ((rd_T48 l0_0 x76_3).f0), .int .i64 ((rd_T48 l0_0 x76_3).f1), .int .i64 ((rd_T48 l0_0 x76_3).f2), .int .i64 ((rd_T48 l0_0 x76_3).f3), .int .i64 ((rd_T48 l0_0 x76_3).f4.f0), .int .i64 ((rd_T48 l0_0 x76_3).f4.f1), .int .i64 ((rd_T48 l0_0 x76_3).f5.f0), .int .i64 ((rd_T48 l0_0 x76_3).f5.f1), .int .i64 ((rd_T48 l0_0 x76_3).f5.f2), .int .i64 0, .int .i64 0]) ?_ 9 _ rfl; (with_reducible repeat (first | refine blk_drewN ?_ _ | refine blk_drew ?_ | refine blk_alloc ?_ _)); refine blk_put (cs := #[.string ((rd_T48 l0_0 x76_3).f0), .int .i64 ((rd_T48 l0_0 x76_3).f1), .int .i64 ((rd_T48 l0_0 x76_3).f2), .int .i64 ((rd_T48 l0_0 x76_3).f3), .int .i64 ((rd_T48 l0_0 x76_3).f4.f0), .int .i64 ((rd_T48 l0_0 x76_3).f4.f1), .int .i64 ((rd_T48 l0_0 x76_3).f5.f0), .int .i64 ((rd_T48 l0_0 x76_3).f5.f1), .int .i64 0, .int .i64 0, .int .i64 0]) ?_ 8 _ rfl; (with_reducible repeat (first | refine blk_drewN ?_ _ | refine blk_drew ?_ | refine blk_alloc ?_ _)); refine blk_put (cs := #[.string ((rd_T48 l0_0 x76_3).f0), .int .i64 ((rd_T48 l0_0 x76_3).f1), .int .i64 ((rd_T48 l0_0 x76_3).f2), .int .i64 ((rd_T48 l0_0 x76_3).f3), .int .i64 ((rd_T48 l0_0 x76_3).f4.f0), .int .i64 ((rd_T48 l0_0 x76_3).f4.f1), .int .i64 ((rd_T48 l0_0 x76_3).f5.f0), .int .i64 0, .int .i64 0, .int .i64 0, .int .i64 0]) ?_ 7 _ rfl; (with_reducible repeat (first | refine blk_drewN ?_ _ | refine blk_drew ?_ | refine blk_alloc ?_ _)); refine blk_put (cs := #[.string ((rd_T48 l0_0 x76_3).f0), .int .i64 ((rd_T48 l0_0 x76_3).f1), .int .i64 ((rd_T48 l0_0 x76_3).f2), .int .i64 ((rd_T48 l0_0 x76_3).f3), .int .i64 ((rd_T48 l0_0 x76_3).f4.f0), .int .i64 ((rd_T48 l0_0 x76_3).f4.f1), .int .i64 0, .int .i64 0, .int .i64 0, .int .i64 0, .int .i64 0]) ?_ 6 _ rfl; (with_reducible repeat (first | refine blk_drewN ?_ _ | refine blk_drew ?_ | refine blk_alloc ?_ _)); refine blk_put (cs := #[.string ((rd_T48 l0_0 x76_3).f0), .int .i64 ((rd_T48 l0_0 x76_3).f1), .int .i64 ((rd_T48 l0_0 x76_3).f2), .int .i64 ((rd_T48 l0_0 x76_3).f3), .int .i64 ((rd_T48 l0_0 x76_3).f4.f0), .int .i64 0, .int .i64 0, .int .i64 0, .int .i64 0, .int .i64 0, .int .i64 0]) ?_ 5 _ rfl; (with_reducible repeat (first | refine blk_drewN ?_ _ | refine blk_drew ?_ | refine blk_alloc ?_ _)); refine blk_put (cs := #[.string ((rd_T48 l0_0 x76_3).f0), .int .i64 ((rd_T48 l0_0 x76_3).f1), .int .i64 ((rd_T48 l0_0 x76_3).f2), .int .i64 ((rd_T48 l0_0 x76_3).f3), .int .i64 0, .int .i64 0, .int .i64 0, .int .i64 0, .int .i64 0, .int .i64 0, .int .i64 0]) ?_ 4 _ rfl; (with_reducible repeat (first | refine blk_drewN ?_ _ | refine blk_drew ?_ | refine blk_alloc ?_ _)); refine blk_put (cs := #[.string ((rd_T48 l0_0 x76_3).f0), .int .i64 ((rd_T48 l0_0 x76_3).f1), .int .i64 ((rd_T48 l0_0 x76_3).f2), .int .i64 0, .int .i64 0, .int .i64 0, .int .i64 0, .int .i64 0, .int .i64 0, .int .i64 0, .int .i64 0]) ?_ 3 _ rfl; (with_reducible repeat (first | refine blk_drewN ?_ _ | refine blk_drew ?_ | refine blk_alloc ?_ _)); refine blk_put (cs := #[.string ((rd_T48 l0_0 x76_3).f0), .int .i64 ((rd_T48 l0_0 x76_3).f1), .int .i64 0, .int .i64 0, .int .i64 0, .int .i64 0, .int .i64 0, .int .i64 0, .int .i64 0, .int .i64 0, .int .i64 0]) ?_ 2 _ rfl; (with_reducible repeat (first | refine blk_drewN ?_ _ | refine blk_drew ?_ | refine blk_alloc ?_ _)); refine blk_put (cs := #[.string ((rd_T48 l0_0 x76_3).f0), .int .i64 0, .int .i64 0, .int .i64 0, .int .i64 0, .int .i64 0, .int .i64 0, .int .i64 0, .int .i64 0, .int .i64 0, .int .i64 0]) ?_ 1 _ rfl; (with_reducible repeat (first | refine blk_drewN ?_ _ | refine blk_drew ?_ | refine blk_alloc ?_ _)); refine blk_put (cs := #[.string (⟨#[]⟩ : ByteArray), .int .i64 0, .int .i64 0, .int .i64 0, .int .i64 0, .int .i64 0, .int .i64 0, .int .i64 0, .int .i64 0, .int .i64 0, .int .i64 0]) ?_ 0 _ rfl; (with_reducible repeat (first | refine blk_drewN ?_ _ | refine blk_drew ?_ | refine blk_alloc ?_ _)); exact BK504.out⟩, ⟨kB3 HB GE486 GE496 GE504⟩⟩
       case round =>
        clear H'
        obtain ⟨x81_4, x497000_4, x497001_4, x497002_4, rfl, HA, HK4, HO_6, HO_7, BK486, BK496, BK504, HB⟩ := hrel
        cases gk with
        | zero => exact absurd HA.out (by simp [w08_TreeSums.l4])
        | succ k4 =>
         have H := HA.out
         clear HA
         simp only [w08_TreeSums.l4] at H
         by_cases c74 : x81_4 < 3
         rotate_left
         ·rw [if_neg c74] at H
          have c74b0 : decide (x81_4 < 3) = false := decide_eq_false c74
          clear c74
          have H' := Aside0.mk H
          clear H
          go_wp2
          go_roundg k4
          case measure => have := HK1.out; have := HK2.out; have := HK3.out; have := HK4.out; omega
          case rel => exact ⟨(wrap64 (x76_3 + 1)), (x497000_4), (x497001_4), (x497002_4), tQ, H', ⟨by have := HK1.out; have := HK2.out; have := HK3.out; have := HK4.out; omega⟩, ⟨kR HO_6⟩, ⟨kR HO_7⟩, ⟨kK BK486⟩, ⟨kK BK496⟩, ⟨kB3 HB GE486 GE496 GE504⟩⟩
         rw [if_pos c74] at H
         have c74b0 : decide (x81_4 < 3) = true := decide_eq_true c74
         clear c74
         by_cases c75 : ((rd_T48 l0_0 x76_3).f1) = x36_1
         rotate_left
         ·rw [if_neg c75] at H
          have c75b0 : (((rd_T48 l0_0 x76_3).f1) == x36_1) = false := beq_eq_false_iff_ne.mpr c75
          have c75b1 : (((rd_T48 l0_0 x76_3).f1) != x36_1) = true := bne_iff_ne.mpr c75
          have H' := Aside0.mk H
          clear H
          have hnb103 := NB504_486.out
          have hnc103 := NB486_504.out
          have hnb104 := NB504_496.out
          have hnc104 := NB496_504.out
          obtain ⟨⟨hcz105_0, hcz105_1, hcz105_2, hcz105_3, hcz105_4, hcz105_5, hcz105_6, hcz105_7, hcz105_8, hcz105_9, hcz105_10⟩, hfz105_0, hfz105_1, hfz105_2, hfz105_3, hfz105_4, hfz105_5, hfz105_6, hfz105_7, hfz105_8, hfz105_9, hfz105_10⟩ := bx11 BK504
          go_wp2
          go_roundg k4
          case measure => have := HK1.out; have := HK2.out; have := HK3.out; have := HK4.out; omega
          case rel => exact ⟨(wrap64 (x81_4 + 1)), (x497000_4), (x497001_4), (x497002_4), tQ, H', ⟨by have := HK1.out; have := HK2.out; have := HK3.out; have := HK4.out; omega⟩, ⟨kR HO_6⟩, ⟨kR HO_7⟩, ⟨kK BK486⟩, ⟨kK BK496⟩, ⟨kK BK504⟩, ⟨kB3 HB GE486 GE496 GE504⟩⟩
         rw [if_pos c75] at H
         have c75b0 : (((rd_T48 l0_0 x76_3).f1) == x36_1) = true := beq_iff_eq.mpr c75
         have c75b1 : (((rd_T48 l0_0 x76_3).f1) != x36_1) = false := bne_eq_false_iff_eq.mpr c75
         clear c75
         by_cases c76 : x81_4 = 0
         ·rw [if_pos c76] at H
          have c76b0 : (x81_4 == 0) = true := beq_iff_eq.mpr c76
          have c76b1 : (x81_4 != 0) = false := bne_eq_false_iff_eq.mpr c76
          have c76b2 : ∀ (a_ : Addr) (W_ : World), (Instr.indexAt 55 (.pointer (some a_)) (.int .i64 x81_4)).run Try.prog W_ = .ok (.pointer (some (a_.add 0))) W_ := fun a_ W_ => ix_arr Try.underlying55 (fun W_ => by go_simp) 0 (by decide) x81_4 c76 a_ W_
          clear c76
          by_cases c77 : 0 ≤ x76_3
          rotate_left
          ·rw [if_neg c77] at H
           exact absurd H (by simp)
          rw [if_pos c77] at H
          have c77b0 : decide (0 ≤ x76_3) = true := decide_eq_true c77
          clear c77
          by_cases c78 : x76_3 < (t492.length : Int)
          rotate_left
          ·rw [if_neg c78] at H
           exact absurd H (by simp)
          rw [if_pos c78] at H
          have c78b0 : decide (x76_3 < (t492.length : Int)) = true := decide_eq_true c78
          clear c78
          have H' := Aside0.mk H
          clear H
          have hnb79 := NB504_486.out
          have hnc79 := NB486_504.out
          have hnb80 := NB504_496.out
          have hnc80 := NB496_504.out
          obtain ⟨⟨hcz81_0, hcz81_1, hcz81_2, hcz81_3, hcz81_4, hcz81_5, hcz81_6, hcz81_7, hcz81_8, hcz81_9, hcz81_10⟩, hfz81_0, hfz81_1, hfz81_2, hfz81_3, hfz81_4, hfz81_5, hfz81_6, hfz81_7, hfz81_8, hfz81_9, hfz81_10⟩ := bx11 BK504
          try go_wp2
          have n0_ := Aside0.mk (Kd.R_drew HO_6.out)
          have n1_ := Aside0.mk (Kd.R_drew HO_7.out)
          have n2_ := Aside0.mk (blk_drew BK486.out)
          have n3_ := Aside0.mk (blk_drew BK496.out)
          have n4_ := Aside0.mk (blk_drew BK504.out)
          have n5_ := Aside0.mk (below_drew1 HB.out)
          clear HO_6
          clear HO_7
          clear BK486
          clear BK496
          clear BK504
          clear HB
          have HO_6 := n0_
          have HO_7 := n1_
          have BK486 := n2_
          have BK496 := n3_
          have BK504 := n4_
          have HB := n5_
          clear n0_ n1_ n2_ n3_ n4_ n5_
          obtain ⟨Ao83, co83, eo83⟩ := Kd.R_slice HO_7.out
          (first | subst eo83 | (injection eo83 with f1_ f2_ f3_; have f4_ := f1_.symm; have f5_ := f3_.symm; clear f1_ f2_ f3_; subst f4_; subst f5_))
          have p505 : 0 ≤ (x76_3 : Int) := tD
          have q505 : x76_3 < (t492.length : Int) := tD
          obtain ⟨ad505, e505, hx505_0, hx505_1, hx505_2⟩ := at_T55 (Kd.R_reads' HO_7.out).2.2 x76_3 p505 q505
          cases e505
          replace p505 := eq_true p505
          replace q505 := eq_true q505
          refine start_ (n := 12) (S := fun w' => w'.cell? ⟨gb496, 0, none⟩ = some (.int .i64 x497000_4) ∧ w'.cell? ⟨gb496, 1, none⟩ = some (.int .i64 x497001_4) ∧ w'.cell? ⟨gb496, 2, none⟩ = some (.int .i64 x497002_4) ∧ w'.cell? (ad505.add ((x76_3).toNat * 3)) = some (.int .i64 ((rd_T55 t492 x76_3).f0)) ∧ w'.cell? ⟨(ad505.add ((x76_3).toNat * 3)).block, (ad505.add ((x76_3).toNat * 3)).off + 1, none⟩ = some (.int .i64 ((rd_T55 t492 x76_3).f1)) ∧ w'.cell? ⟨(ad505.add ((x76_3).toNat * 3)).block, (ad505.add ((x76_3).toNat * 3)).off + 2, none⟩ = some (.int .i64 ((rd_T55 t492 x76_3).f2))) (ds := [11]) #[false, false, false, false, false, false, false, false, false, false, false, false] (by kernel_rfl) rfl rfl ⟨(blk_cell BK496.out 0).trans rfl, (blk_cell BK496.out 1).trans rfl, (blk_cell BK496.out 2).trans rfl, hx505_0, hx505_1, hx505_2⟩ (fun hHeld => ?_); refine with_tabW w08_TreeSums.tab29 w08_TreeSums.bits29 (fun HT_ HW_ => ?_)
          generalize wr.drew = w82 at HO_6 HO_7 BK486 BK496 BK504 HB hx505_0 hx505_1 hx505_2 hHeld ⊢
          refine pure_ (i := 0) (N := some 88) (v := ?_) (a' := ?_) #[true, false, false, false, false, false, false, false, false, false, false, false] rfl rfl (any_of HT_.out (by kernel_rfl)) (fun _ _ _ h => h) (Or.inl ⟨by rfl, ?_⟩) ?_ ?_
          rotate_left
          ·intro w'
           go_simp
           with_reducible rfl
          rotate_left
          ·simp only [Act.put, List.setIfInBounds_toArray, List.set_cons_zero, List.set_cons_succ, i64_w, i32_w]
           rfl
          refine pure_ (i := 1) (N := some 89) (v := ?_) (a' := ?_) #[true, true, false, false, false, false, false, false, false, false, false, false] rfl rfl (any_of HT_.out (by kernel_rfl)) (fun _ _ _ h => h) (Or.inl ⟨by rfl, ?_⟩) ?_ ?_
          rotate_left
          ·intro w'
           go_simp
           with_reducible rfl
          rotate_left
          ·simp only [Act.put, List.setIfInBounds_toArray, List.set_cons_zero, List.set_cons_succ, i64_w, i32_w]
           rfl
          refine pure_ (i := 3) (N := some 91) (v := ?_) (a' := ?_) #[true, true, false, true, false, false, false, false, false, false, false, false] rfl rfl (any_of HT_.out (by kernel_rfl)) (fun _ _ _ h => h) (Or.inl ⟨by rfl, ?_⟩) ?_ ?_
          rotate_left
          ·intro w'
           go_simp
           with_reducible rfl
          rotate_left
          ·simp only [Act.put, List.setIfInBounds_toArray, List.set_cons_zero, List.set_cons_succ, i64_w, i32_w]
           rfl
          refine pure_ (i := 4) (N := some 92) (v := ?_) (a' := ?_) #[true, true, false, true, true, false, false, false, false, false, false, false] rfl rfl (any_of HT_.out (by kernel_rfl)) (fun _ _ _ h => h) (Or.inl ⟨by rfl, ?_⟩) ?_ ?_
          rotate_left
          ·intro w'
           go_simp
           with_reducible rfl
          rotate_left
          ·simp only [Act.put, List.setIfInBounds_toArray, List.set_cons_zero, List.set_cons_succ, i64_w, i32_w]
           rfl
          refine pure_ (i := 5) (N := some 93) (v := ?_) (a' := ?_) #[true, true, false, true, true, true, false, false, false, false, false, false] rfl rfl (any_of HT_.out (by kernel_rfl)) (fun _ _ _ h => h) (Or.inl ⟨by rfl, ?_⟩) ?_ ?_
          rotate_left
          ·intro w'
           go_simp
           with_reducible rfl
          rotate_left
          ·simp only [Act.put, List.setIfInBounds_toArray, List.set_cons_zero, List.set_cons_succ, i64_w, i32_w]
           rfl
          refine pure_ (i := 6) (N := some 94) (v := ?_) (a' := ?_) #[true, true, false, true, true, true, true, false, false, false, false, false] rfl rfl (any_of HT_.out (by kernel_rfl)) (fun _ _ _ h => h) (Or.inl ⟨by rfl, ?_⟩) ?_ ?_
          rotate_left
          ·intro w'
           go_simp
           with_reducible rfl
          rotate_left
          ·simp only [Act.put, List.setIfInBounds_toArray, List.set_cons_zero, List.set_cons_succ, i64_w, i32_w]
           rfl
          refine pure_ (i := 7) (N := some 95) (v := ?_) (a' := ?_) #[true, true, false, true, true, true, true, true, false, false, false, false] rfl rfl (any_of HT_.out (by kernel_rfl)) (fun _ _ _ h => h) (Or.inl ⟨by rfl, ?_⟩) ?_ ?_
          rotate_left
          ·intro w'
           go_simp
           with_reducible rfl
          rotate_left
          ·simp only [Act.put, List.setIfInBounds_toArray, List.set_cons_zero, List.set_cons_succ, i64_w, i32_w]
           rfl
          refine take_ (i := 2) (N := some 90) (v := ?_) (a' := ?_) #[true, true, true, true, true, true, true, true, false, false, false, false] rfl rfl (take_ofW HT_.out HW_.out (by kernel_rfl)) (fun _ _ _ h => h) (Or.inl ⟨by rfl, ?_⟩) hHeld ?_ ?_
          rotate_left
          ·rintro w' ⟨s0, s1, s2, s3, s4, s5⟩
           go_simp
           with_reducible rfl
          rotate_left
          ·simp only [Act.put, List.setIfInBounds_toArray, List.set_cons_zero, List.set_cons_succ, i64_w, i32_w]
           rfl
          refine take_ (i := 8) (N := some 96) (v := ?_) (a' := ?_) #[true, true, true, true, true, true, true, true, true, false, false, false] rfl rfl (take_ofW HT_.out HW_.out (by kernel_rfl)) (fun _ _ _ h => h) (Or.inl ⟨by rfl, ?_⟩) hHeld ?_ ?_
          rotate_left
          ·rintro w' ⟨s0, s1, s2, s3, s4, s5⟩
           go_simp
           with_reducible rfl
          rotate_left
          ·simp only [Act.put, List.setIfInBounds_toArray, List.set_cons_zero, List.set_cons_succ, i64_w, i32_w]
           rfl
          refine pure_ (i := 9) (N := some 97) (v := ?_) (a' := ?_) #[true, true, true, true, true, true, true, true, true, true, false, false] rfl rfl (any_of HT_.out (by kernel_rfl)) (fun _ _ _ h => h) (Or.inl ⟨by rfl, ?_⟩) ?_ ?_
          rotate_left
          ·intro w'
           go_simp
           with_reducible rfl
          rotate_left
          ·simp only [Act.put, List.setIfInBounds_toArray, List.set_cons_zero, List.set_cons_succ, i64_w, i32_w]
           rfl
          refine pure_ (i := 10) (N := some 98) (v := ?_) (a' := ?_) #[true, true, true, true, true, true, true, true, true, true, true, false] rfl rfl (any_of HT_.out (by kernel_rfl)) (fun _ _ _ h => h) (Or.inl ⟨by rfl, ?_⟩) ?_ ?_
          rotate_left
          ·intro w'
           go_simp
           with_reducible rfl
          rotate_left
          ·simp only [Act.put, List.setIfInBounds_toArray, List.set_cons_zero, List.set_cons_succ, i64_w, i32_w]
           rfl
          refine last_ (i := 11) (N := none) #[true, true, true, true, true, true, true, true, true, true, true, true] rfl rfl (one_of HT_.out (by kernel_rfl)) (by decide) (fun K hK => ?_)
          have hs84 : w82.cell? ⟨gb496, 0, none⟩ = some (.int .i64 x497000_4) := (blk_cell BK496.out 0).trans rfl
          have hfs84 := blk_frozen BK496.out 0
          have hns84_0 := NB486_496.out
          have hns84_2 := NB504_496.out
          have hms84_0 := NB496_486.out
          have hms84_2 := NB496_504.out
          refine skip_ (w1 := ?_) (by rfl) rfl ?_ ?_
          rotate_left
          ·go_simp
           rfl
          refine hK.out _ _ ?_
          clear hK K
          refine done_ (done_of HT_.out (by kernel_rfl)) ?_
          try go_wp2
          go_roundg k4
          case measure => have := HK1.out; have := HK2.out; have := HK3.out; have := HK4.out; omega
          case rel => exact ⟨(wrap64 (x81_4 + 1)), (wrap64 (x497000_4 + ((rd_T55 t492 x76_3).f0))), (x497001_4), (x497002_4), tQ, H', ⟨by have := HK1.out; have := HK2.out; have := HK3.out; have := HK4.out; omega⟩, ⟨by (with_reducible repeat (first | apply Kd.R_alloc | apply Kd.R_drewN | apply Kd.R_drew)); exact Kd.R_mono (Kd.R_far (p := ⟨gb496, 0, none⟩) (Kd.R_types HO_6.out BK496.out (by decide)) (fun _ hk => hk.2) (.int .i64 (wrap64 (x497000_4 + ((rd_T55 t492 x76_3).f0))))) (fun _ hk => trivial)⟩, ⟨by (with_reducible repeat (first | apply Kd.R_alloc | apply Kd.R_drewN | apply Kd.R_drew)); exact Kd.R_mono (Kd.R_far (p := ⟨gb496, 0, none⟩) (Kd.R_mono HO_7.out (fun k_ hk => (⟨hk, hk⟩ : _ ∧ k_ ≠ gb496))) (fun _ hk => hk.2) (.int .i64 (wrap64 (x497000_4 + ((rd_T55 t492 x76_3).f0))))) (fun _ hk => hk.1)⟩, ⟨by (with_reducible repeat (first | refine blk_drewN ?_ _ | refine blk_drew ?_ | refine blk_alloc ?_ _)); refine blk_far ?_ NB486_496.out _; (with_reducible repeat (first | refine blk_drewN ?_ _ | refine blk_drew ?_ | refine blk_alloc ?_ _)); exact BK486.out⟩, ⟨by (with_reducible repeat (first | refine blk_drewN ?_ _ | refine blk_drew ?_ | refine blk_alloc ?_ _)); refine blk_put (cs := #[.int .i64 x497000_4, .int .i64 x497001_4, .int .i64 x497002_4]) ?_ 0 _ rfl; (with_reducible repeat (first | refine blk_drewN ?_ _ | refine blk_drew ?_ | refine blk_alloc ?_ _)); exact BK496.out⟩, ⟨by (with_reducible repeat (first | refine blk_drewN ?_ _ | refine blk_drew ?_ | refine blk_alloc ?_ _)); refine blk_far ?_ NB504_496.out _; (with_reducible repeat (first | refine blk_drewN ?_ _ | refine blk_drew ?_ | refine blk_alloc ?_ _)); exact BK504.out⟩, ⟨kB3 HB GE486 GE496 GE504⟩⟩
         rw [if_neg c76] at H
         have c76b0 : (x81_4 == 0) = false := beq_eq_false_iff_ne.mpr c76
         have c76b1 : (x81_4 != 0) = true := bne_iff_ne.mpr c76
         by_cases c85 : x81_4 = 1
         ·rw [if_pos c85] at H
          have c85b0 : (x81_4 == 1) = true := beq_iff_eq.mpr c85
          have c85b1 : (x81_4 != 1) = false := bne_eq_false_iff_eq.mpr c85
          have c85b2 : ∀ (a_ : Addr) (W_ : World), (Instr.indexAt 55 (.pointer (some a_)) (.int .i64 x81_4)).run Try.prog W_ = .ok (.pointer (some (a_.add 1))) W_ := fun a_ W_ => ix_arr Try.underlying55 (fun W_ => by go_simp) 1 (by decide) x81_4 c85 a_ W_
          clear c85
          by_cases c86 : 0 ≤ x76_3
          rotate_left
          ·rw [if_neg c86] at H
           exact absurd H (by simp)
          rw [if_pos c86] at H
          have c86b0 : decide (0 ≤ x76_3) = true := decide_eq_true c86
          clear c86
          by_cases c87 : x76_3 < (t492.length : Int)
          rotate_left
          ·rw [if_neg c87] at H
           exact absurd H (by simp)
          rw [if_pos c87] at H
          have c87b0 : decide (x76_3 < (t492.length : Int)) = true := decide_eq_true c87
          clear c87
          have H' := Aside0.mk H
          clear H
          have hnb88 := NB504_486.out
          have hnc88 := NB486_504.out
          have hnb89 := NB504_496.out
          have hnc89 := NB496_504.out
          obtain ⟨⟨hcz90_0, hcz90_1, hcz90_2, hcz90_3, hcz90_4, hcz90_5, hcz90_6, hcz90_7, hcz90_8, hcz90_9, hcz90_10⟩, hfz90_0, hfz90_1, hfz90_2, hfz90_3, hfz90_4, hfz90_5, hfz90_6, hfz90_7, hfz90_8, hfz90_9, hfz90_10⟩ := bx11 BK504
          try go_wp2
          have n0_ := Aside0.mk (Kd.R_drew HO_6.out)
          have n1_ := Aside0.mk (Kd.R_drew HO_7.out)
          have n2_ := Aside0.mk (blk_drew BK486.out)
          have n3_ := Aside0.mk (blk_drew BK496.out)
          have n4_ := Aside0.mk (blk_drew BK504.out)
          have n5_ := Aside0.mk (below_drew1 HB.out)
          clear HO_6
          clear HO_7
          clear BK486
          clear BK496
          clear BK504
          clear HB
          have HO_6 := n0_
          have HO_7 := n1_
          have BK486 := n2_
          have BK496 := n3_
          have BK504 := n4_
          have HB := n5_
          clear n0_ n1_ n2_ n3_ n4_ n5_
          obtain ⟨Ao92, co92, eo92⟩ := Kd.R_slice HO_7.out
          (first | subst eo92 | (injection eo92 with f1_ f2_ f3_; have f4_ := f1_.symm; have f5_ := f3_.symm; clear f1_ f2_ f3_; subst f4_; subst f5_))
          have p506 : 0 ≤ (x76_3 : Int) := tD
          have q506 : x76_3 < (t492.length : Int) := tD
          obtain ⟨ad506, e506, hx506_0, hx506_1, hx506_2⟩ := at_T55 (Kd.R_reads' HO_7.out).2.2 x76_3 p506 q506
          cases e506
          replace p506 := eq_true p506
          replace q506 := eq_true q506
          refine start_ (n := 12) (S := fun w' => w'.cell? ⟨gb496, 0, none⟩ = some (.int .i64 x497000_4) ∧ w'.cell? ⟨gb496, 1, none⟩ = some (.int .i64 x497001_4) ∧ w'.cell? ⟨gb496, 2, none⟩ = some (.int .i64 x497002_4) ∧ w'.cell? (ad506.add ((x76_3).toNat * 3)) = some (.int .i64 ((rd_T55 t492 x76_3).f0)) ∧ w'.cell? ⟨(ad506.add ((x76_3).toNat * 3)).block, (ad506.add ((x76_3).toNat * 3)).off + 1, none⟩ = some (.int .i64 ((rd_T55 t492 x76_3).f1)) ∧ w'.cell? ⟨(ad506.add ((x76_3).toNat * 3)).block, (ad506.add ((x76_3).toNat * 3)).off + 2, none⟩ = some (.int .i64 ((rd_T55 t492 x76_3).f2))) (ds := [11]) #[false, false, false, false, false, false, false, false, false, false, false, false] (by kernel_rfl) rfl rfl ⟨(blk_cell BK496.out 0).trans rfl, (blk_cell BK496.out 1).trans rfl, (blk_cell BK496.out 2).trans rfl, hx506_0, hx506_1, hx506_2⟩ (fun hHeld => ?_); refine with_tabW w08_TreeSums.tab29 w08_TreeSums.bits29 (fun HT_ HW_ => ?_)
          generalize wr.drew = w91 at HO_6 HO_7 BK486 BK496 BK504 HB hx506_0 hx506_1 hx506_2 hHeld ⊢
          refine pure_ (i := 0) (N := some 88) (v := ?_) (a' := ?_) #[true, false, false, false, false, false, false, false, false, false, false, false] rfl rfl (any_of HT_.out (by kernel_rfl)) (fun _ _ _ h => h) (Or.inl ⟨by rfl, ?_⟩) ?_ ?_
          rotate_left
          ·intro w'
           go_simp
           with_reducible rfl
          rotate_left
          ·simp only [Act.put, List.setIfInBounds_toArray, List.set_cons_zero, List.set_cons_succ, i64_w, i32_w]
           rfl
          refine pure_ (i := 1) (N := some 89) (v := ?_) (a' := ?_) #[true, true, false, false, false, false, false, false, false, false, false, false] rfl rfl (any_of HT_.out (by kernel_rfl)) (fun _ _ _ h => h) (Or.inl ⟨by rfl, ?_⟩) ?_ ?_
          rotate_left
          ·intro w'
           go_simp
           with_reducible rfl
          rotate_left
          ·simp only [Act.put, List.setIfInBounds_toArray, List.set_cons_zero, List.set_cons_succ, i64_w, i32_w]
           rfl
          refine pure_ (i := 3) (N := some 91) (v := ?_) (a' := ?_) #[true, true, false, true, false, false, false, false, false, false, false, false] rfl rfl (any_of HT_.out (by kernel_rfl)) (fun _ _ _ h => h) (Or.inl ⟨by rfl, ?_⟩) ?_ ?_
          rotate_left
          ·intro w'
           go_simp
           with_reducible rfl
          rotate_left
          ·simp only [Act.put, List.setIfInBounds_toArray, List.set_cons_zero, List.set_cons_succ, i64_w, i32_w]
           rfl
          refine pure_ (i := 4) (N := some 92) (v := ?_) (a' := ?_) #[true, true, false, true, true, false, false, false, false, false, false, false] rfl rfl (any_of HT_.out (by kernel_rfl)) (fun _ _ _ h => h) (Or.inl ⟨by rfl, ?_⟩) ?_ ?_
          rotate_left
          ·intro w'
           go_simp
           with_reducible rfl
          rotate_left
          ·simp only [Act.put, List.setIfInBounds_toArray, List.set_cons_zero, List.set_cons_succ, i64_w, i32_w]
           rfl
          refine pure_ (i := 5) (N := some 93) (v := ?_) (a' := ?_) #[true, true, false, true, true, true, false, false, false, false, false, false] rfl rfl (any_of HT_.out (by kernel_rfl)) (fun _ _ _ h => h) (Or.inl ⟨by rfl, ?_⟩) ?_ ?_
          rotate_left
          ·intro w'
           go_simp
           with_reducible rfl
          rotate_left
          ·simp only [Act.put, List.setIfInBounds_toArray, List.set_cons_zero, List.set_cons_succ, i64_w, i32_w]
           rfl
          refine pure_ (i := 6) (N := some 94) (v := ?_) (a' := ?_) #[true, true, false, true, true, true, true, false, false, false, false, false] rfl rfl (any_of HT_.out (by kernel_rfl)) (fun _ _ _ h => h) (Or.inl ⟨by rfl, ?_⟩) ?_ ?_
          rotate_left
          ·intro w'
           go_simp
           with_reducible rfl
          rotate_left
          ·simp only [Act.put, List.setIfInBounds_toArray, List.set_cons_zero, List.set_cons_succ, i64_w, i32_w]
           rfl
          refine pure_ (i := 7) (N := some 95) (v := ?_) (a' := ?_) #[true, true, false, true, true, true, true, true, false, false, false, false] rfl rfl (any_of HT_.out (by kernel_rfl)) (fun _ _ _ h => h) (Or.inl ⟨by rfl, ?_⟩) ?_ ?_
          rotate_left
          ·intro w'
           go_simp
           with_reducible rfl
          rotate_left
          ·simp only [Act.put, List.setIfInBounds_toArray, List.set_cons_zero, List.set_cons_succ, i64_w, i32_w]
           rfl
          refine take_ (i := 2) (N := some 90) (v := ?_) (a' := ?_) #[true, true, true, true, true, true, true, true, false, false, false, false] rfl rfl (take_ofW HT_.out HW_.out (by kernel_rfl)) (fun _ _ _ h => h) (Or.inl ⟨by rfl, ?_⟩) hHeld ?_ ?_
          rotate_left
          ·rintro w' ⟨s0, s1, s2, s3, s4, s5⟩
           go_simp
           with_reducible rfl
          rotate_left
          ·simp only [Act.put, List.setIfInBounds_toArray, List.set_cons_zero, List.set_cons_succ, i64_w, i32_w]
           rfl
          refine take_ (i := 8) (N := some 96) (v := ?_) (a' := ?_) #[true, true, true, true, true, true, true, true, true, false, false, false] rfl rfl (take_ofW HT_.out HW_.out (by kernel_rfl)) (fun _ _ _ h => h) (Or.inl ⟨by rfl, ?_⟩) hHeld ?_ ?_
          rotate_left
          ·rintro w' ⟨s0, s1, s2, s3, s4, s5⟩
           go_simp
           with_reducible rfl
          rotate_left
          ·simp only [Act.put, List.setIfInBounds_toArray, List.set_cons_zero, List.set_cons_succ, i64_w, i32_w]
           rfl
          refine pure_ (i := 9) (N := some 97) (v := ?_) (a' := ?_) #[true, true, true, true, true, true, true, true, true, true, false, false] rfl rfl (any_of HT_.out (by kernel_rfl)) (fun _ _ _ h => h) (Or.inl ⟨by rfl, ?_⟩) ?_ ?_
          rotate_left
          ·intro w'
           go_simp
           with_reducible rfl
          rotate_left
          ·simp only [Act.put, List.setIfInBounds_toArray, List.set_cons_zero, List.set_cons_succ, i64_w, i32_w]
           rfl
          refine pure_ (i := 10) (N := some 98) (v := ?_) (a' := ?_) #[true, true, true, true, true, true, true, true, true, true, true, false] rfl rfl (any_of HT_.out (by kernel_rfl)) (fun _ _ _ h => h) (Or.inl ⟨by rfl, ?_⟩) ?_ ?_
          rotate_left
          ·intro w'
           go_simp
           with_reducible rfl
          rotate_left
          ·simp only [Act.put, List.setIfInBounds_toArray, List.set_cons_zero, List.set_cons_succ, i64_w, i32_w]
           rfl
          refine last_ (i := 11) (N := none) #[true, true, true, true, true, true, true, true, true, true, true, true] rfl rfl (one_of HT_.out (by kernel_rfl)) (by decide) (fun K hK => ?_)
          have hs93 : w91.cell? ⟨gb496, 1, none⟩ = some (.int .i64 x497001_4) := (blk_cell BK496.out 1).trans rfl
          have hfs93 := blk_frozen BK496.out 1
          have hns93_0 := NB486_496.out
          have hns93_2 := NB504_496.out
          have hms93_0 := NB496_486.out
          have hms93_2 := NB496_504.out
          refine skip_ (w1 := ?_) (by rfl) rfl ?_ ?_
          rotate_left
          ·go_simp
           rfl
          refine hK.out _ _ ?_
          clear hK K
          refine done_ (done_of HT_.out (by kernel_rfl)) ?_
          try go_wp2
          go_roundg k4
          case measure => have := HK1.out; have := HK2.out; have := HK3.out; have := HK4.out; omega
          case rel => exact ⟨(wrap64 (x81_4 + 1)), (x497000_4), (wrap64 (x497001_4 + ((rd_T55 t492 x76_3).f1))), (x497002_4), tQ, H', ⟨by have := HK1.out; have := HK2.out; have := HK3.out; have := HK4.out; omega⟩, ⟨by (with_reducible repeat (first | apply Kd.R_alloc | apply Kd.R_drewN | apply Kd.R_drew)); exact Kd.R_mono (Kd.R_far (p := ⟨gb496, 1, none⟩) (Kd.R_types HO_6.out BK496.out (by decide)) (fun _ hk => hk.2) (.int .i64 (wrap64 (x497001_4 + ((rd_T55 t492 x76_3).f1))))) (fun _ hk => trivial)⟩, ⟨by (with_reducible repeat (first | apply Kd.R_alloc | apply Kd.R_drewN | apply Kd.R_drew)); exact Kd.R_mono (Kd.R_far (p := ⟨gb496, 1, none⟩) (Kd.R_mono HO_7.out (fun k_ hk => (⟨hk, hk⟩ : _ ∧ k_ ≠ gb496))) (fun _ hk => hk.2) (.int .i64 (wrap64 (x497001_4 + ((rd_T55 t492 x76_3).f1))))) (fun _ hk => hk.1)⟩, ⟨by (with_reducible repeat (first | refine blk_drewN ?_ _ | refine blk_drew ?_ | refine blk_alloc ?_ _)); refine blk_far ?_ NB486_496.out _; (with_reducible repeat (first | refine blk_drewN ?_ _ | refine blk_drew ?_ | refine blk_alloc ?_ _)); exact BK486.out⟩, ⟨by (with_reducible repeat (first | refine blk_drewN ?_ _ | refine blk_drew ?_ | refine blk_alloc ?_ _)); refine blk_put (cs := #[.int .i64 x497000_4, .int .i64 x497001_4, .int .i64 x497002_4]) ?_ 1 _ rfl; (with_reducible repeat (first | refine blk_drewN ?_ _ | refine blk_drew ?_ | refine blk_alloc ?_ _)); exact BK496.out⟩, ⟨by (with_reducible repeat (first | refine blk_drewN ?_ _ | refine blk_drew ?_ | refine blk_alloc ?_ _)); refine blk_far ?_ NB504_496.out _; (with_reducible repeat (first | refine blk_drewN ?_ _ | refine blk_drew ?_ | refine blk_alloc ?_ _)); exact BK504.out⟩, ⟨kB3 HB GE486 GE496 GE504⟩⟩
         rw [if_neg c85] at H
         have c85b0 : (x81_4 == 1) = false := beq_eq_false_iff_ne.mpr c85
         have c85b1 : (x81_4 != 1) = true := bne_iff_ne.mpr c85
         by_cases c94 : x81_4 = 2
         rotate_left
         ·rw [if_neg c94] at H
          exact absurd H (by simp)
         rw [if_pos c94] at H
         have c94b0 : (x81_4 == 2) = true := beq_iff_eq.mpr c94
         have c94b1 : (x81_4 != 2) = false := bne_eq_false_iff_eq.mpr c94
         have c94b2 : ∀ (a_ : Addr) (W_ : World), (Instr.indexAt 55 (.pointer (some a_)) (.int .i64 x81_4)).run Try.prog W_ = .ok (.pointer (some (a_.add 2))) W_ := fun a_ W_ => ix_arr Try.underlying55 (fun W_ => by go_simp) 2 (by decide) x81_4 c94 a_ W_
         clear c94
         by_cases c95 : 0 ≤ x76_3
         rotate_left
         ·rw [if_neg c95] at H
          exact absurd H (by simp)
         rw [if_pos c95] at H
         have c95b0 : decide (0 ≤ x76_3) = true := decide_eq_true c95
         clear c95
         by_cases c96 : x76_3 < (t492.length : Int)
         rotate_left
         ·rw [if_neg c96] at H
          exact absurd H (by simp)
         rw [if_pos c96] at H
         have c96b0 : decide (x76_3 < (t492.length : Int)) = true := decide_eq_true c96
         clear c96
         have H' := Aside0.mk H
         clear H
         have hnb97 := NB504_486.out
         have hnc97 := NB486_504.out
         have hnb98 := NB504_496.out
         have hnc98 := NB496_504.out
         obtain ⟨⟨hcz99_0, hcz99_1, hcz99_2, hcz99_3, hcz99_4, hcz99_5, hcz99_6, hcz99_7, hcz99_8, hcz99_9, hcz99_10⟩, hfz99_0, hfz99_1, hfz99_2, hfz99_3, hfz99_4, hfz99_5, hfz99_6, hfz99_7, hfz99_8, hfz99_9, hfz99_10⟩ := bx11 BK504
         try go_wp2
         have n0_ := Aside0.mk (Kd.R_drew HO_6.out)
         have n1_ := Aside0.mk (Kd.R_drew HO_7.out)
         have n2_ := Aside0.mk (blk_drew BK486.out)
         have n3_ := Aside0.mk (blk_drew BK496.out)
         have n4_ := Aside0.mk (blk_drew BK504.out)
         have n5_ := Aside0.mk (below_drew1 HB.out)
         clear HO_6
         clear HO_7
         clear BK486
         clear BK496
         clear BK504
         clear HB
         have HO_6 := n0_
         have HO_7 := n1_
         have BK486 := n2_
         have BK496 := n3_
         have BK504 := n4_
         have HB := n5_
         clear n0_ n1_ n2_ n3_ n4_ n5_
         obtain ⟨Ao101, co101, eo101⟩ := Kd.R_slice HO_7.out
         (first | subst eo101 | (injection eo101 with f1_ f2_ f3_; have f4_ := f1_.symm; have f5_ := f3_.symm; clear f1_ f2_ f3_; subst f4_; subst f5_))
         have p507 : 0 ≤ (x76_3 : Int) := tD
         have q507 : x76_3 < (t492.length : Int) := tD
         obtain ⟨ad507, e507, hx507_0, hx507_1, hx507_2⟩ := at_T55 (Kd.R_reads' HO_7.out).2.2 x76_3 p507 q507
         cases e507
         replace p507 := eq_true p507
         replace q507 := eq_true q507
         refine start_ (n := 12) (S := fun w' => w'.cell? ⟨gb496, 0, none⟩ = some (.int .i64 x497000_4) ∧ w'.cell? ⟨gb496, 1, none⟩ = some (.int .i64 x497001_4) ∧ w'.cell? ⟨gb496, 2, none⟩ = some (.int .i64 x497002_4) ∧ w'.cell? (ad507.add ((x76_3).toNat * 3)) = some (.int .i64 ((rd_T55 t492 x76_3).f0)) ∧ w'.cell? ⟨(ad507.add ((x76_3).toNat * 3)).block, (ad507.add ((x76_3).toNat * 3)).off + 1, none⟩ = some (.int .i64 ((rd_T55 t492 x76_3).f1)) ∧ w'.cell? ⟨(ad507.add ((x76_3).toNat * 3)).block, (ad507.add ((x76_3).toNat * 3)).off + 2, none⟩ = some (.int .i64 ((rd_T55 t492 x76_3).f2))) (ds := [11]) #[false, false, false, false, false, false, false, false, false, false, false, false] (by kernel_rfl) rfl rfl ⟨(blk_cell BK496.out 0).trans rfl, (blk_cell BK496.out 1).trans rfl, (blk_cell BK496.out 2).trans rfl, hx507_0, hx507_1, hx507_2⟩ (fun hHeld => ?_); refine with_tabW w08_TreeSums.tab29 w08_TreeSums.bits29 (fun HT_ HW_ => ?_)
         generalize wr.drew = w100 at HO_6 HO_7 BK486 BK496 BK504 HB hx507_0 hx507_1 hx507_2 hHeld ⊢
         refine pure_ (i := 0) (N := some 88) (v := ?_) (a' := ?_) #[true, false, false, false, false, false, false, false, false, false, false, false] rfl rfl (any_of HT_.out (by kernel_rfl)) (fun _ _ _ h => h) (Or.inl ⟨by rfl, ?_⟩) ?_ ?_
         rotate_left
         ·intro w'
          go_simp
          with_reducible rfl
         rotate_left
         ·simp only [Act.put, List.setIfInBounds_toArray, List.set_cons_zero, List.set_cons_succ, i64_w, i32_w]
          rfl
         refine pure_ (i := 1) (N := some 89) (v := ?_) (a' := ?_) #[true, true, false, false, false, false, false, false, false, false, false, false] rfl rfl (any_of HT_.out (by kernel_rfl)) (fun _ _ _ h => h) (Or.inl ⟨by rfl, ?_⟩) ?_ ?_
         rotate_left
         ·intro w'
          go_simp
          with_reducible rfl
         rotate_left
         ·simp only [Act.put, List.setIfInBounds_toArray, List.set_cons_zero, List.set_cons_succ, i64_w, i32_w]
          rfl
         refine pure_ (i := 3) (N := some 91) (v := ?_) (a' := ?_) #[true, true, false, true, false, false, false, false, false, false, false, false] rfl rfl (any_of HT_.out (by kernel_rfl)) (fun _ _ _ h => h) (Or.inl ⟨by rfl, ?_⟩) ?_ ?_
         rotate_left
         ·intro w'
          go_simp
          with_reducible rfl
         rotate_left
         ·simp only [Act.put, List.setIfInBounds_toArray, List.set_cons_zero, List.set_cons_succ, i64_w, i32_w]
          rfl
         refine pure_ (i := 4) (N := some 92) (v := ?_) (a' := ?_) #[true, true, false, true, true, false, false, false, false, false, false, false] rfl rfl (any_of HT_.out (by kernel_rfl)) (fun _ _ _ h => h) (Or.inl ⟨by rfl, ?_⟩) ?_ ?_
         rotate_left
         ·intro w'
          go_simp
          with_reducible rfl
         rotate_left
         ·simp only [Act.put, List.setIfInBounds_toArray, List.set_cons_zero, List.set_cons_succ, i64_w, i32_w]
          rfl
         refine pure_ (i := 5) (N := some 93) (v := ?_) (a' := ?_) #[true, true, false, true, true, true, false, false, false, false, false, false] rfl rfl (any_of HT_.out (by kernel_rfl)) (fun _ _ _ h => h) (Or.inl ⟨by rfl, ?_⟩) ?_ ?_
         rotate_left
         ·intro w'
          go_simp
          with_reducible rfl
         rotate_left
         ·simp only [Act.put, List.setIfInBounds_toArray, List.set_cons_zero, List.set_cons_succ, i64_w, i32_w]
          rfl
         refine pure_ (i := 6) (N := some 94) (v := ?_) (a' := ?_) #[true, true, false, true, true, true, true, false, false, false, false, false] rfl rfl (any_of HT_.out (by kernel_rfl)) (fun _ _ _ h => h) (Or.inl ⟨by rfl, ?_⟩) ?_ ?_
         rotate_left
         ·intro w'
          go_simp
          with_reducible rfl
         rotate_left
         ·simp only [Act.put, List.setIfInBounds_toArray, List.set_cons_zero, List.set_cons_succ, i64_w, i32_w]
          rfl
         refine pure_ (i := 7) (N := some 95) (v := ?_) (a' := ?_) #[true, true, false, true, true, true, true, true, false, false, false, false] rfl rfl (any_of HT_.out (by kernel_rfl)) (fun _ _ _ h => h) (Or.inl ⟨by rfl, ?_⟩) ?_ ?_
         rotate_left
         ·intro w'
          go_simp
          with_reducible rfl
         rotate_left
         ·simp only [Act.put, List.setIfInBounds_toArray, List.set_cons_zero, List.set_cons_succ, i64_w, i32_w]
          rfl
         refine take_ (i := 2) (N := some 90) (v := ?_) (a' := ?_) #[true, true, true, true, true, true, true, true, false, false, false, false] rfl rfl (take_ofW HT_.out HW_.out (by kernel_rfl)) (fun _ _ _ h => h) (Or.inl ⟨by rfl, ?_⟩) hHeld ?_ ?_
         rotate_left
         ·rintro w' ⟨s0, s1, s2, s3, s4, s5⟩
          go_simp
          with_reducible rfl
         rotate_left
         ·simp only [Act.put, List.setIfInBounds_toArray, List.set_cons_zero, List.set_cons_succ, i64_w, i32_w]
          rfl
         refine take_ (i := 8) (N := some 96) (v := ?_) (a' := ?_) #[true, true, true, true, true, true, true, true, true, false, false, false] rfl rfl (take_ofW HT_.out HW_.out (by kernel_rfl)) (fun _ _ _ h => h) (Or.inl ⟨by rfl, ?_⟩) hHeld ?_ ?_
         rotate_left
         ·rintro w' ⟨s0, s1, s2, s3, s4, s5⟩
          go_simp
          with_reducible rfl
         rotate_left
         ·simp only [Act.put, List.setIfInBounds_toArray, List.set_cons_zero, List.set_cons_succ, i64_w, i32_w]
          rfl
         refine pure_ (i := 9) (N := some 97) (v := ?_) (a' := ?_) #[true, true, true, true, true, true, true, true, true, true, false, false] rfl rfl (any_of HT_.out (by kernel_rfl)) (fun _ _ _ h => h) (Or.inl ⟨by rfl, ?_⟩) ?_ ?_
         rotate_left
         ·intro w'
          go_simp
          with_reducible rfl
         rotate_left
         ·simp only [Act.put, List.setIfInBounds_toArray, List.set_cons_zero, List.set_cons_succ, i64_w, i32_w]
          rfl
         refine pure_ (i := 10) (N := some 98) (v := ?_) (a' := ?_) #[true, true, true, true, true, true, true, true, true, true, true, false] rfl rfl (any_of HT_.out (by kernel_rfl)) (fun _ _ _ h => h) (Or.inl ⟨by rfl, ?_⟩) ?_ ?_
         rotate_left
         ·intro w'
          go_simp
          with_reducible rfl
         rotate_left
         ·simp only [Act.put, List.setIfInBounds_toArray, List.set_cons_zero, List.set_cons_succ, i64_w, i32_w]
          rfl
         refine last_ (i := 11) (N := none) #[true, true, true, true, true, true, true, true, true, true, true, true] rfl rfl (one_of HT_.out (by kernel_rfl)) (by decide) (fun K hK => ?_)
         have hs102 : w100.cell? ⟨gb496, 2, none⟩ = some (.int .i64 x497002_4) := (blk_cell BK496.out 2).trans rfl
         have hfs102 := blk_frozen BK496.out 2
         have hns102_0 := NB486_496.out
         have hns102_2 := NB504_496.out
         have hms102_0 := NB496_486.out
         have hms102_2 := NB496_504.out
         refine skip_ (w1 := ?_) (by rfl) rfl ?_ ?_
         rotate_left
         ·go_simp
          rfl
         refine hK.out _ _ ?_
         clear hK K
         refine done_ (done_of HT_.out (by kernel_rfl)) ?_
         try go_wp2
         go_roundg k4
         case measure => have := HK1.out; have := HK2.out; have := HK3.out; have := HK4.out; omega
         case rel => exact ⟨(wrap64 (x81_4 + 1)), (x497000_4), (x497001_4), (wrap64 (x497002_4 + ((rd_T55 t492 x76_3).f2))), tQ, H', ⟨by have := HK1.out; have := HK2.out; have := HK3.out; have := HK4.out; omega⟩, ⟨by (with_reducible repeat (first | apply Kd.R_alloc | apply Kd.R_drewN | apply Kd.R_drew)); exact Kd.R_mono (Kd.R_far (p := ⟨gb496, 2, none⟩) (Kd.R_types HO_6.out BK496.out (by decide)) (fun _ hk => hk.2) (.int .i64 (wrap64 (x497002_4 + ((rd_T55 t492 x76_3).f2))))) (fun _ hk => trivial)⟩, ⟨by (with_reducible repeat (first | apply Kd.R_alloc | apply Kd.R_drewN | apply Kd.R_drew)); exact Kd.R_mono (Kd.R_far (p := ⟨gb496, 2, none⟩) (Kd.R_mono HO_7.out (fun k_ hk => (⟨hk, hk⟩ : _ ∧ k_ ≠ gb496))) (fun _ hk => hk.2) (.int .i64 (wrap64 (x497002_4 + ((rd_T55 t492 x76_3).f2))))) (fun _ hk => hk.1)⟩, ⟨by (with_reducible repeat (first | refine blk_drewN ?_ _ | refine blk_drew ?_ | refine blk_alloc ?_ _)); refine blk_far ?_ NB486_496.out _; (with_reducible repeat (first | refine blk_drewN ?_ _ | refine blk_drew ?_ | refine blk_alloc ?_ _)); exact BK486.out⟩, ⟨by (with_reducible repeat (first | refine blk_drewN ?_ _ | refine blk_drew ?_ | refine blk_alloc ?_ _)); refine blk_put (cs := #[.int .i64 x497000_4, .int .i64 x497001_4, .int .i64 x497002_4]) ?_ 2 _ rfl; (with_reducible repeat (first | refine blk_drewN ?_ _ | refine blk_drew ?_ | refine blk_alloc ?_ _)); exact BK496.out⟩, ⟨by (with_reducible repeat (first | refine blk_drewN ?_ _ | refine blk_drew ?_ | refine blk_alloc ?_ _)); refine blk_far ?_ NB504_496.out _; (with_reducible repeat (first | refine blk_drewN ?_ _ | refine blk_drew ?_ | refine blk_alloc ?_ _)); exact BK504.out⟩, ⟨kB3 HB GE486 GE496 GE504⟩⟩
def w08_TreeSums.Pure : Prop := ∀ (s0 : S28) (l1 : List Int), (wfS28 s0) → (l1.length ≤ maxLen ∧ ∀ x_ ∈ l1, (Lit.int .u8 x_).wf = true) → ∃ k, w08_TreeSums.f k s0.f0 s0.f1 s0.f2 s0.f3 s0.f4 l1 = some true
theorem w08_TreeSums.walk (P : w08_TreeSums.Pure) (s0 : S28) (l1 : List Int) (cs0 : Array Value) (A1 : Option Addr) (c1 : Nat) (w : World) (w0 : wfS28 s0) (w1 : l1.length ≤ maxLen ∧ ∀ x_ ∈ l1, (Lit.int .u8 x_).wf = true) (K0 : k28.K w s0 cs0.toList) (C1 : Kd.C (Kd.int .u8) w A1 l1.length l1) (hc1 : l1.length ≤ c1) :
    Calls Try.prog 6 #[.agg cs0, .slice A1 l1.length c1] w fun e w' => e = .returned (.bool true) ∧ Below w.heap.size w w' := by
 obtain ⟨k, h⟩ := P s0 l1 w0 w1
 obtain ⟨A0_0, e0_0, A0_1, e0_1, A0_2, e0_2, A0_3, e0_3, A0_4, e0_4, hs0, hl0_0, hC0_0, hl0_1, hC0_1, hl0_2, hC0_2, hl0_3, hC0_3, hl0_4, hC0_4⟩ := k28_open K0
 obtain ⟨L0⟩ := cs0
 obtain rfl : L0 = _ := hs0
 refine (w08_TreeSums.calls k _ _ s0.f0 _ _ s0.f1 _ _ s0.f2 _ _ s0.f3 _ _ s0.f4 _ _ l1 true w hC0_0 hl0_0 hC0_1 hl0_1 hC0_2 hl0_2 hC0_3 hl0_3 hC0_4 hl0_4 C1 hc1 h).mono ?_
 rintro e w' ⟨rfl, hd⟩
 exact ⟨rfl, hd⟩
end Go.Proofs.Ytpdmnineampimaa.Q
