import Derived.Test.YtpdmnineampimaaYe
import Derived.Test.YtpdmnineampimaaYQx26
import Derived.Test.YtpdmnineampimaaYQx32
import Derived.Test.YtpdmnineampimaaYQx49
import Derived.Test.YtpdmnineampimaaYQx51
import Derived.Test.YtpdmnineampimaaYQx53
import Derived.Test.YtpdmnineampimaaYQx54
set_option linter.unusedVariables false
set_option linter.unusedSimpArgs false
namespace Go.Proofs.Ytpdmnineampimaa.Q
open Go.RowKit Go.Proofs.YtpdmnineampimaaW.PrintWords Go.Proofs.YtpdmnineampimaaW.PrintLast Go.Proofs.YtpdmnineampimaaW.PrintMore
attribute [local go_sem] max2_int min2_int max_two min_two max_three min_three max_four min_four
mutual
def w08_TreeOne.j0 : Nat → List Int → Int → Int → Bool → Bool → List (S48) → List (S62) → List (S84) → List (S42) → List (S87) → Option (Bool)
  | 0, _, _, _, _, _, _, _, _, _, _ => none
  | k + 1, x1, x2, x3, x9, x34, x549000, x549001, x549002, x549003, x549004 => if x34 = true then (some x9) else (if (x549003.length : Int) = 0 then (none) else ((w08_currents.f k x549000 x549001 x549002 x549003 x549004 x1).bind fun t551 => ((some (([] : List Int) : List Int)).bind fun y554 => (if y554.length + t551.length < 17592186044416 then ((some (y554 ++ t551 : List Int)).bind fun y557 => (if 0 ≤ (Int.tmod (wrap64 (x2)) (x549003.length : Int)) then (if (Int.tmod (wrap64 (x2)) (x549003.length : Int)) < (t551.length : Int) then (if (wrap64 (81 - (rd t551 (Int.tmod (wrap64 (x2)) (x549003.length : Int))))) = 0 then (none) else (if (Int.tmod (wrap64 (x2)) (x549003.length : Int)) < (y557.length : Int) then ((w08_loads.f x549000 x549001 x549002 x549003 x549004 t551).bind fun bt563 => ((w08_loads.f x549000 x549001 x549002 x549003 x549004 (y557.set ((Int.tmod (wrap64 (x2)) (x549003.length : Int)) : Int).toNat (wrap64 ((rd y557 (Int.tmod (wrap64 (x2)) (x549003.length : Int))) + (Int.tmod (wrap64 (x3)) (wrap64 (81 - (rd t551 (Int.tmod (wrap64 (x2)) (x549003.length : Int)))))))))).bind fun bt567 => (if 0 ≤ (t551.length : Int) then (if ((t551.length : Int) : Int).toNat ≤ 35184372088832 then ((w08_loads.f x549000 x549001 x549002 x549003 x549004 (List.replicate ((t551.length : Int) : Int).toNat 0)).bind fun bt574 => ((tree_Path.f x549000 x549001 x549002 x549003 x549004 (Int.tmod (wrap64 (x2)) (x549003.length : Int))).bind fun bt578 => (if bt563.2 = true then (if bt567.2 = true then (if bt574.2 = true then (w08_TreeOne.j1 k x9 (Int.tmod (wrap64 (x2)) (x549003.length : Int)) (Int.tmod (wrap64 (x3)) (wrap64 (81 - (rd t551 (Int.tmod (wrap64 (x2)) (x549003.length : Int)))))) bt563.1 bt567.1 bt574.1 bt578.1 (bt578.2 != 0) x549000 x549001 x549002 x549003 x549004) else (w08_TreeOne.j1 k x9 (Int.tmod (wrap64 (x2)) (x549003.length : Int)) (Int.tmod (wrap64 (x3)) (wrap64 (81 - (rd t551 (Int.tmod (wrap64 (x2)) (x549003.length : Int)))))) bt563.1 bt567.1 bt574.1 bt578.1 true x549000 x549001 x549002 x549003 x549004)) else (w08_TreeOne.j1 k x9 (Int.tmod (wrap64 (x2)) (x549003.length : Int)) (Int.tmod (wrap64 (x3)) (wrap64 (81 - (rd t551 (Int.tmod (wrap64 (x2)) (x549003.length : Int)))))) bt563.1 bt567.1 bt574.1 bt578.1 true x549000 x549001 x549002 x549003 x549004)) else (w08_TreeOne.j1 k x9 (Int.tmod (wrap64 (x2)) (x549003.length : Int)) (Int.tmod (wrap64 (x3)) (wrap64 (81 - (rd t551 (Int.tmod (wrap64 (x2)) (x549003.length : Int)))))) bt563.1 bt567.1 bt574.1 bt578.1 true x549000 x549001 x549002 x549003 x549004)))) else (none)) else (none)))) else (none))) else (none)) else (none))) else (none)))))
def w08_TreeOne.j1 : Nat → Bool → Int → Int → List (S55) → List (S55) → List (S55) → List Int → Bool → List (S48) → List (S62) → List (S84) → List (S42) → List (S87) → Option (Bool)
  | 0, _, _, _, _, _, _, _, _, _, _, _, _, _ => none
  | k + 1, x9, x10, x13, x14, x16, x18, x20, x102, x549000, x549001, x549002, x549003, x549004 => if x102 = true then (some false) else (w08_TreeOne.l0 k x9 x10 x13 x14 x16 x18 x20 (x14.length : Int) 0 x549000 x549001 x549002 x549003 x549004)
def w08_TreeOne.l0 : Nat → Bool → Int → Int → List (S55) → List (S55) → List (S55) → List Int → Int → Int → List (S48) → List (S62) → List (S84) → List (S42) → List (S87) → Option (Bool)
  | 0, _, _, _, _, _, _, _, _, _, _, _, _, _, _ => none
  | k + 1, x9, x10, x13, x14, x16, x18, x20, x104, x105, x549000, x549001, x549002, x549003, x549004 => if x105 < x104 then (w08_TreeOne.l1 k x9 x10 x13 x14 x16 x18 x20 x105 x104 x105 0 x549000 x549001 x549002 x549003 x549004) else (some x9)
def w08_TreeOne.l1 : Nat → Bool → Int → Int → List (S55) → List (S55) → List (S55) → List Int → Int → Int → Int → Int → List (S48) → List (S62) → List (S84) → List (S42) → List (S87) → Option (Bool)
  | 0, _, _, _, _, _, _, _, _, _, _, _, _, _, _, _, _ => none
  | k + 1, x9, x10, x13, x14, x16, x18, x20, x22, x104, x105, x108, x549000, x549001, x549002, x549003, x549004 => if x108 < 3 then (if 0 ≤ x22 then (if x22 < (x14.length : Int) then (if x108 = 0 then ((w08_in.f k x20 x22).bind fun t583 => (if t583 = true then (if 0 ≤ x10 then (if x10 < (x549003.length : Int) then (if 0 ≤ x108 then (w08_TreeOne.j4 k x9 x10 x13 x14 x16 x18 x20 x22 x108 ((rd_T55 x14 x22).f0) x104 x105 x108 ((Go.bits .and .i64 (shr .i64 ((rd_T42 x549003 x10).f2) x108) 1) == 1) x549000 x549001 x549002 x549003 x549004) else (none)) else (none)) else (none)) else (w08_TreeOne.j4 k x9 x10 x13 x14 x16 x18 x20 x22 x108 ((rd_T55 x14 x22).f0) x104 x105 x108 false x549000 x549001 x549002 x549003 x549004))) else (if x108 = 1 then ((w08_in.f k x20 x22).bind fun t589 => (if t589 = true then (if 0 ≤ x10 then (if x10 < (x549003.length : Int) then (if 0 ≤ x108 then (w08_TreeOne.j7 k x9 x10 x13 x14 x16 x18 x20 x22 x108 ((rd_T55 x14 x22).f1) x104 x105 x108 ((Go.bits .and .i64 (shr .i64 ((rd_T42 x549003 x10).f2) x108) 1) == 1) x549000 x549001 x549002 x549003 x549004) else (none)) else (none)) else (none)) else (w08_TreeOne.j7 k x9 x10 x13 x14 x16 x18 x20 x22 x108 ((rd_T55 x14 x22).f1) x104 x105 x108 false x549000 x549001 x549002 x549003 x549004))) else (if x108 = 2 then ((w08_in.f k x20 x22).bind fun t595 => (if t595 = true then (if 0 ≤ x10 then (if x10 < (x549003.length : Int) then (if 0 ≤ x108 then (w08_TreeOne.j10 k x9 x10 x13 x14 x16 x18 x20 x22 x108 ((rd_T55 x14 x22).f2) x104 x105 x108 ((Go.bits .and .i64 (shr .i64 ((rd_T42 x549003 x10).f2) x108) 1) == 1) x549000 x549001 x549002 x549003 x549004) else (none)) else (none)) else (none)) else (w08_TreeOne.j10 k x9 x10 x13 x14 x16 x18 x20 x22 x108 ((rd_T55 x14 x22).f2) x104 x105 x108 false x549000 x549001 x549002 x549003 x549004))) else (none)))) else (none)) else (none)) else (w08_TreeOne.l0 k x9 x10 x13 x14 x16 x18 x20 x104 (wrap64 (x105 + 1)) x549000 x549001 x549002 x549003 x549004)
def w08_TreeOne.j13 : Nat → Bool → Int → Int → List (S55) → List (S55) → List (S55) → List Int → Int → Int → Int → Int → List (S48) → List (S62) → List (S84) → List (S42) → List (S87) → Option (Bool)
  | 0, _, _, _, _, _, _, _, _, _, _, _, _, _, _, _, _ => none
  | k + 1, x9, x10, x13, x14, x16, x18, x20, x22, x104, x105, x108, x549000, x549001, x549002, x549003, x549004 => w08_TreeOne.l1 k x9 x10 x13 x14 x16 x18 x20 x22 x104 x105 (wrap64 (x108 + 1)) x549000 x549001 x549002 x549003 x549004
def w08_TreeOne.j4 : Nat → Bool → Int → Int → List (S55) → List (S55) → List (S55) → List Int → Int → Int → Int → Int → Int → Int → Bool → List (S48) → List (S62) → List (S84) → List (S42) → List (S87) → Option (Bool)
  | 0, _, _, _, _, _, _, _, _, _, _, _, _, _, _, _, _, _, _, _ => none
  | k + 1, x9, x10, x13, x14, x16, x18, x20, x22, x23, x24, x104, x105, x108, x131, x549000, x549001, x549002, x549003, x549004 => if x131 = true then (w08_TreeOne.j5 k x9 x10 x13 x14 x16 x18 x20 x22 x23 (wrap64 (x24 + x13)) x104 x105 x108 x549000 x549001 x549002 x549003 x549004) else (w08_TreeOne.j5 k x9 x10 x13 x14 x16 x18 x20 x22 x23 x24 x104 x105 x108 x549000 x549001 x549002 x549003 x549004)
def w08_TreeOne.j5 : Nat → Bool → Int → Int → List (S55) → List (S55) → List (S55) → List Int → Int → Int → Int → Int → Int → Int → List (S48) → List (S62) → List (S84) → List (S42) → List (S87) → Option (Bool)
  | 0, _, _, _, _, _, _, _, _, _, _, _, _, _, _, _, _, _, _ => none
  | k + 1, x9, x10, x13, x14, x16, x18, x20, x22, x23, x24, x104, x105, x108, x549000, x549001, x549002, x549003, x549004 => if 0 ≤ x22 then (if x22 < (x16.length : Int) then (if x23 = 0 then (if ((rd_T55 x16 x22).f0) = x24 then (if x22 < (x18.length : Int) then (w08_TreeOne.j6 k x9 x10 x13 x14 x16 x18 x20 x22 x104 x105 x108 (((rd_T55 x18 x22).f0) != 0) x549000 x549001 x549002 x549003 x549004) else (none)) else (w08_TreeOne.j6 k x9 x10 x13 x14 x16 x18 x20 x22 x104 x105 x108 true x549000 x549001 x549002 x549003 x549004)) else (if x23 = 1 then (if ((rd_T55 x16 x22).f1) = x24 then (if x22 < (x18.length : Int) then (w08_TreeOne.j6 k x9 x10 x13 x14 x16 x18 x20 x22 x104 x105 x108 (((rd_T55 x18 x22).f1) != 0) x549000 x549001 x549002 x549003 x549004) else (none)) else (w08_TreeOne.j6 k x9 x10 x13 x14 x16 x18 x20 x22 x104 x105 x108 true x549000 x549001 x549002 x549003 x549004)) else (if x23 = 2 then (if ((rd_T55 x16 x22).f2) = x24 then (if x22 < (x18.length : Int) then (w08_TreeOne.j6 k x9 x10 x13 x14 x16 x18 x20 x22 x104 x105 x108 (((rd_T55 x18 x22).f2) != 0) x549000 x549001 x549002 x549003 x549004) else (none)) else (w08_TreeOne.j6 k x9 x10 x13 x14 x16 x18 x20 x22 x104 x105 x108 true x549000 x549001 x549002 x549003 x549004)) else (none)))) else (none)) else (none)
def w08_TreeOne.j6 : Nat → Bool → Int → Int → List (S55) → List (S55) → List (S55) → List Int → Int → Int → Int → Int → Bool → List (S48) → List (S62) → List (S84) → List (S42) → List (S87) → Option (Bool)
  | 0, _, _, _, _, _, _, _, _, _, _, _, _, _, _, _, _, _ => none
  | k + 1, x9, x10, x13, x14, x16, x18, x20, x22, x104, x105, x108, x151, x549000, x549001, x549002, x549003, x549004 => if x151 = true then (some false) else (w08_TreeOne.j13 k x9 x10 x13 x14 x16 x18 x20 x22 x104 x105 x108 x549000 x549001 x549002 x549003 x549004)
def w08_TreeOne.j7 : Nat → Bool → Int → Int → List (S55) → List (S55) → List (S55) → List Int → Int → Int → Int → Int → Int → Int → Bool → List (S48) → List (S62) → List (S84) → List (S42) → List (S87) → Option (Bool)
  | 0, _, _, _, _, _, _, _, _, _, _, _, _, _, _, _, _, _, _, _ => none
  | k + 1, x9, x10, x13, x14, x16, x18, x20, x22, x23, x24, x104, x105, x108, x131, x549000, x549001, x549002, x549003, x549004 => if x131 = true then (w08_TreeOne.j8 k x9 x10 x13 x14 x16 x18 x20 x22 x23 (wrap64 (x24 + x13)) x104 x105 x108 x549000 x549001 x549002 x549003 x549004) else (w08_TreeOne.j8 k x9 x10 x13 x14 x16 x18 x20 x22 x23 x24 x104 x105 x108 x549000 x549001 x549002 x549003 x549004)
def w08_TreeOne.j8 : Nat → Bool → Int → Int → List (S55) → List (S55) → List (S55) → List Int → Int → Int → Int → Int → Int → Int → List (S48) → List (S62) → List (S84) → List (S42) → List (S87) → Option (Bool)
  | 0, _, _, _, _, _, _, _, _, _, _, _, _, _, _, _, _, _, _ => none
  | k + 1, x9, x10, x13, x14, x16, x18, x20, x22, x23, x24, x104, x105, x108, x549000, x549001, x549002, x549003, x549004 => if 0 ≤ x22 then (if x22 < (x16.length : Int) then (if x23 = 0 then (if ((rd_T55 x16 x22).f0) = x24 then (if x22 < (x18.length : Int) then (w08_TreeOne.j9 k x9 x10 x13 x14 x16 x18 x20 x22 x104 x105 x108 (((rd_T55 x18 x22).f0) != 0) x549000 x549001 x549002 x549003 x549004) else (none)) else (w08_TreeOne.j9 k x9 x10 x13 x14 x16 x18 x20 x22 x104 x105 x108 true x549000 x549001 x549002 x549003 x549004)) else (if x23 = 1 then (if ((rd_T55 x16 x22).f1) = x24 then (if x22 < (x18.length : Int) then (w08_TreeOne.j9 k x9 x10 x13 x14 x16 x18 x20 x22 x104 x105 x108 (((rd_T55 x18 x22).f1) != 0) x549000 x549001 x549002 x549003 x549004) else (none)) else (w08_TreeOne.j9 k x9 x10 x13 x14 x16 x18 x20 x22 x104 x105 x108 true x549000 x549001 x549002 x549003 x549004)) else (if x23 = 2 then (if ((rd_T55 x16 x22).f2) = x24 then (if x22 < (x18.length : Int) then (w08_TreeOne.j9 k x9 x10 x13 x14 x16 x18 x20 x22 x104 x105 x108 (((rd_T55 x18 x22).f2) != 0) x549000 x549001 x549002 x549003 x549004) else (none)) else (w08_TreeOne.j9 k x9 x10 x13 x14 x16 x18 x20 x22 x104 x105 x108 true x549000 x549001 x549002 x549003 x549004)) else (none)))) else (none)) else (none)
def w08_TreeOne.j9 : Nat → Bool → Int → Int → List (S55) → List (S55) → List (S55) → List Int → Int → Int → Int → Int → Bool → List (S48) → List (S62) → List (S84) → List (S42) → List (S87) → Option (Bool)
  | 0, _, _, _, _, _, _, _, _, _, _, _, _, _, _, _, _, _ => none
  | k + 1, x9, x10, x13, x14, x16, x18, x20, x22, x104, x105, x108, x151, x549000, x549001, x549002, x549003, x549004 => if x151 = true then (some false) else (w08_TreeOne.j13 k x9 x10 x13 x14 x16 x18 x20 x22 x104 x105 x108 x549000 x549001 x549002 x549003 x549004)
def w08_TreeOne.j10 : Nat → Bool → Int → Int → List (S55) → List (S55) → List (S55) → List Int → Int → Int → Int → Int → Int → Int → Bool → List (S48) → List (S62) → List (S84) → List (S42) → List (S87) → Option (Bool)
  | 0, _, _, _, _, _, _, _, _, _, _, _, _, _, _, _, _, _, _, _ => none
  | k + 1, x9, x10, x13, x14, x16, x18, x20, x22, x23, x24, x104, x105, x108, x131, x549000, x549001, x549002, x549003, x549004 => if x131 = true then (w08_TreeOne.j11 k x9 x10 x13 x14 x16 x18 x20 x22 x23 (wrap64 (x24 + x13)) x104 x105 x108 x549000 x549001 x549002 x549003 x549004) else (w08_TreeOne.j11 k x9 x10 x13 x14 x16 x18 x20 x22 x23 x24 x104 x105 x108 x549000 x549001 x549002 x549003 x549004)
def w08_TreeOne.j11 : Nat → Bool → Int → Int → List (S55) → List (S55) → List (S55) → List Int → Int → Int → Int → Int → Int → Int → List (S48) → List (S62) → List (S84) → List (S42) → List (S87) → Option (Bool)
  | 0, _, _, _, _, _, _, _, _, _, _, _, _, _, _, _, _, _, _ => none
  | k + 1, x9, x10, x13, x14, x16, x18, x20, x22, x23, x24, x104, x105, x108, x549000, x549001, x549002, x549003, x549004 => if 0 ≤ x22 then (if x22 < (x16.length : Int) then (if x23 = 0 then (if ((rd_T55 x16 x22).f0) = x24 then (if x22 < (x18.length : Int) then (w08_TreeOne.j12 k x9 x10 x13 x14 x16 x18 x20 x22 x104 x105 x108 (((rd_T55 x18 x22).f0) != 0) x549000 x549001 x549002 x549003 x549004) else (none)) else (w08_TreeOne.j12 k x9 x10 x13 x14 x16 x18 x20 x22 x104 x105 x108 true x549000 x549001 x549002 x549003 x549004)) else (if x23 = 1 then (if ((rd_T55 x16 x22).f1) = x24 then (if x22 < (x18.length : Int) then (w08_TreeOne.j12 k x9 x10 x13 x14 x16 x18 x20 x22 x104 x105 x108 (((rd_T55 x18 x22).f1) != 0) x549000 x549001 x549002 x549003 x549004) else (none)) else (w08_TreeOne.j12 k x9 x10 x13 x14 x16 x18 x20 x22 x104 x105 x108 true x549000 x549001 x549002 x549003 x549004)) else (if x23 = 2 then (if ((rd_T55 x16 x22).f2) = x24 then (if x22 < (x18.length : Int) then (w08_TreeOne.j12 k x9 x10 x13 x14 x16 x18 x20 x22 x104 x105 x108 (((rd_T55 x18 x22).f2) != 0) x549000 x549001 x549002 x549003 x549004) else (none)) else (w08_TreeOne.j12 k x9 x10 x13 x14 x16 x18 x20 x22 x104 x105 x108 true x549000 x549001 x549002 x549003 x549004)) else (none)))) else (none)) else (none)
def w08_TreeOne.j12 : Nat → Bool → Int → Int → List (S55) → List (S55) → List (S55) → List Int → Int → Int → Int → Int → Bool → List (S48) → List (S62) → List (S84) → List (S42) → List (S87) → Option (Bool)
  | 0, _, _, _, _, _, _, _, _, _, _, _, _, _, _, _, _, _ => none
  | k + 1, x9, x10, x13, x14, x16, x18, x20, x22, x104, x105, x108, x151, x549000, x549001, x549002, x549003, x549004 => if x151 = true then (some false) else (w08_TreeOne.j13 k x9 x10 x13 x14 x16 x18 x20 x22 x104 x105 x108 x549000 x549001 x549002 x549003 x549004)
end
def w08_TreeOne.f (k : Nat) (l0_0 : List (S48)) (l0_1 : List (S62)) (l0_2 : List (S84)) (l0_3 : List (S42)) (l0_4 : List (S87)) (l1 : List Int) (a2 : Int) (a3 : Int) : Option (Bool) := (w08_head.f k).bind fun t549 => ((w08_usable.f k l0_0 l0_1 l0_2 l0_3 l0_4).bind fun t550 => (if t550 = true then (w08_TreeOne.j0 k l1 a2 a3 t549 ((l0_3.length : Int) == 0) l0_0 l0_1 l0_2 l0_3 l0_4) else (w08_TreeOne.j0 k l1 a2 a3 t549 true l0_0 l0_1 l0_2 l0_3 l0_4)))
theorem w08_TreeOne.mono_l : ∀ k, (∀ y0 y1 y2 y3 y4 y5 y6 y7 y8 y9, LeO (w08_TreeOne.j0 k y0 y1 y2 y3 y4 y5 y6 y7 y8 y9) (w08_TreeOne.j0 (k + 1) y0 y1 y2 y3 y4 y5 y6 y7 y8 y9)) ∧ (∀ y0 y1 y2 y3 y4 y5 y6 y7 y8 y9 y10 y11 y12, LeO (w08_TreeOne.j1 k y0 y1 y2 y3 y4 y5 y6 y7 y8 y9 y10 y11 y12) (w08_TreeOne.j1 (k + 1) y0 y1 y2 y3 y4 y5 y6 y7 y8 y9 y10 y11 y12)) ∧ (∀ y0 y1 y2 y3 y4 y5 y6 y7 y8 y9 y10 y11 y12 y13, LeO (w08_TreeOne.l0 k y0 y1 y2 y3 y4 y5 y6 y7 y8 y9 y10 y11 y12 y13) (w08_TreeOne.l0 (k + 1) y0 y1 y2 y3 y4 y5 y6 y7 y8 y9 y10 y11 y12 y13)) ∧ (∀ y0 y1 y2 y3 y4 y5 y6 y7 y8 y9 y10 y11 y12 y13 y14 y15, LeO (w08_TreeOne.l1 k y0 y1 y2 y3 y4 y5 y6 y7 y8 y9 y10 y11 y12 y13 y14 y15) (w08_TreeOne.l1 (k + 1) y0 y1 y2 y3 y4 y5 y6 y7 y8 y9 y10 y11 y12 y13 y14 y15)) ∧ (∀ y0 y1 y2 y3 y4 y5 y6 y7 y8 y9 y10 y11 y12 y13 y14 y15, LeO (w08_TreeOne.j13 k y0 y1 y2 y3 y4 y5 y6 y7 y8 y9 y10 y11 y12 y13 y14 y15) (w08_TreeOne.j13 (k + 1) y0 y1 y2 y3 y4 y5 y6 y7 y8 y9 y10 y11 y12 y13 y14 y15)) ∧ (∀ y0 y1 y2 y3 y4 y5 y6 y7 y8 y9 y10 y11 y12 y13 y14 y15 y16 y17 y18, LeO (w08_TreeOne.j4 k y0 y1 y2 y3 y4 y5 y6 y7 y8 y9 y10 y11 y12 y13 y14 y15 y16 y17 y18) (w08_TreeOne.j4 (k + 1) y0 y1 y2 y3 y4 y5 y6 y7 y8 y9 y10 y11 y12 y13 y14 y15 y16 y17 y18)) ∧ (∀ y0 y1 y2 y3 y4 y5 y6 y7 y8 y9 y10 y11 y12 y13 y14 y15 y16 y17, LeO (w08_TreeOne.j5 k y0 y1 y2 y3 y4 y5 y6 y7 y8 y9 y10 y11 y12 y13 y14 y15 y16 y17) (w08_TreeOne.j5 (k + 1) y0 y1 y2 y3 y4 y5 y6 y7 y8 y9 y10 y11 y12 y13 y14 y15 y16 y17)) ∧ (∀ y0 y1 y2 y3 y4 y5 y6 y7 y8 y9 y10 y11 y12 y13 y14 y15 y16, LeO (w08_TreeOne.j6 k y0 y1 y2 y3 y4 y5 y6 y7 y8 y9 y10 y11 y12 y13 y14 y15 y16) (w08_TreeOne.j6 (k + 1) y0 y1 y2 y3 y4 y5 y6 y7 y8 y9 y10 y11 y12 y13 y14 y15 y16)) ∧ (∀ y0 y1 y2 y3 y4 y5 y6 y7 y8 y9 y10 y11 y12 y13 y14 y15 y16 y17 y18, LeO (w08_TreeOne.j7 k y0 y1 y2 y3 y4 y5 y6 y7 y8 y9 y10 y11 y12 y13 y14 y15 y16 y17 y18) (w08_TreeOne.j7 (k + 1) y0 y1 y2 y3 y4 y5 y6 y7 y8 y9 y10 y11 y12 y13 y14 y15 y16 y17 y18)) ∧ (∀ y0 y1 y2 y3 y4 y5 y6 y7 y8 y9 y10 y11 y12 y13 y14 y15 y16 y17, LeO (w08_TreeOne.j8 k y0 y1 y2 y3 y4 y5 y6 y7 y8 y9 y10 y11 y12 y13 y14 y15 y16 y17) (w08_TreeOne.j8 (k + 1) y0 y1 y2 y3 y4 y5 y6 y7 y8 y9 y10 y11 y12 y13 y14 y15 y16 y17)) ∧ (∀ y0 y1 y2 y3 y4 y5 y6 y7 y8 y9 y10 y11 y12 y13 y14 y15 y16, LeO (w08_TreeOne.j9 k y0 y1 y2 y3 y4 y5 y6 y7 y8 y9 y10 y11 y12 y13 y14 y15 y16) (w08_TreeOne.j9 (k + 1) y0 y1 y2 y3 y4 y5 y6 y7 y8 y9 y10 y11 y12 y13 y14 y15 y16)) ∧ (∀ y0 y1 y2 y3 y4 y5 y6 y7 y8 y9 y10 y11 y12 y13 y14 y15 y16 y17 y18, LeO (w08_TreeOne.j10 k y0 y1 y2 y3 y4 y5 y6 y7 y8 y9 y10 y11 y12 y13 y14 y15 y16 y17 y18) (w08_TreeOne.j10 (k + 1) y0 y1 y2 y3 y4 y5 y6 y7 y8 y9 y10 y11 y12 y13 y14 y15 y16 y17 y18)) ∧ (∀ y0 y1 y2 y3 y4 y5 y6 y7 y8 y9 y10 y11 y12 y13 y14 y15 y16 y17, LeO (w08_TreeOne.j11 k y0 y1 y2 y3 y4 y5 y6 y7 y8 y9 y10 y11 y12 y13 y14 y15 y16 y17) (w08_TreeOne.j11 (k + 1) y0 y1 y2 y3 y4 y5 y6 y7 y8 y9 y10 y11 y12 y13 y14 y15 y16 y17)) ∧ (∀ y0 y1 y2 y3 y4 y5 y6 y7 y8 y9 y10 y11 y12 y13 y14 y15 y16, LeO (w08_TreeOne.j12 k y0 y1 y2 y3 y4 y5 y6 y7 y8 y9 y10 y11 y12 y13 y14 y15 y16) (w08_TreeOne.j12 (k + 1) y0 y1 y2 y3 y4 y5 y6 y7 y8 y9 y10 y11 y12 y13 y14 y15 y16))
  | 0 => ⟨fun _ _ _ _ _ _ _ _ _ _ r h => by simp [w08_TreeOne.j0] at h, fun _ _ _ _ _ _ _ _ _ _ _ _ _ r h => by simp [w08_TreeOne.j1] at h, fun _ _ _ _ _ _ _ _ _ _ _ _ _ _ r h => by simp [w08_TreeOne.l0] at h, fun _ _ _ _ _ _ _ _ _ _ _ _ _ _ _ _ r h => by simp [w08_TreeOne.l1] at h, fun _ _ _ _ _ _ _ _ _ _ _ _ _ _ _ _ r h => by simp [w08_TreeOne.j13] at h, fun _ _ _ _ _ _ _ _ _ _ _ _ _ _ _ _ _ _ _ r h => by simp [w08_TreeOne.j4] at h, fun _ _ _ _ _ _ _ _ _ _ _ _ _ _ _ _ _ _ r h => by simp [w08_TreeOne.j5] at h, fun _ _ _ _ _ _ _ _ _ _ _ _ _ _ _ _ _ r h => by simp [w08_TreeOne.j6] at h, fun _ _ _ _ _ _ _ _ _ _ _ _ _ _ _ _ _ _ _ r h => by simp [w08_TreeOne.j7] at h, fun _ _ _ _ _ _ _ _ _ _ _ _ _ _ _ _ _ _ r h => by simp [w08_TreeOne.j8] at h, fun _ _ _ _ _ _ _ _ _ _ _ _ _ _ _ _ _ r h => by simp [w08_TreeOne.j9] at h, fun _ _ _ _ _ _ _ _ _ _ _ _ _ _ _ _ _ _ _ r h => by simp [w08_TreeOne.j10] at h, fun _ _ _ _ _ _ _ _ _ _ _ _ _ _ _ _ _ _ r h => by simp [w08_TreeOne.j11] at h, fun _ _ _ _ _ _ _ _ _ _ _ _ _ _ _ _ _ r h => by simp [w08_TreeOne.j12] at h⟩
  | k + 1 => by
    obtain ⟨ih0, ih1, ih2, ih3, ih4, ih5, ih6, ih7, ih8, ih9, ih10, ih11, ih12, ih13⟩ := w08_TreeOne.mono_l k
    refine ⟨?_, ?_, ?_, ?_, ?_, ?_, ?_, ?_, ?_, ?_, ?_, ?_, ?_, ?_⟩
    · intro y0 y1 y2 y3 y4 y5 y6 y7 y8 y9
      unfold w08_TreeOne.j0
      repeat' first | (with_reducible apply ih0) | (with_reducible apply ih1) | (with_reducible apply ih2) | (with_reducible apply ih3) | (with_reducible apply ih4) | (with_reducible apply ih5) | (with_reducible apply ih6) | (with_reducible apply ih7) | (with_reducible apply ih8) | (with_reducible apply ih9) | (with_reducible apply ih10) | (with_reducible apply ih11) | (with_reducible apply ih12) | (with_reducible apply ih13) | (with_reducible exact w08_currents.mono _ _ _ _ _ _ _) | (with_reducible exact w08_head.mono _) | (with_reducible exact w08_in.mono _ _ _) | (with_reducible exact w08_usable.mono _ _ _ _ _ _) | (with_reducible exact LeO.refl _) | (with_reducible exact LeO.none _) | (with_reducible refine LeO.ite ?_ ?_) | (with_reducible refine LeO.bind ?_ (fun _ => ?_))
    · intro y0 y1 y2 y3 y4 y5 y6 y7 y8 y9 y10 y11 y12
      unfold w08_TreeOne.j1
      repeat' first | (with_reducible apply ih0) | (with_reducible apply ih1) | (with_reducible apply ih2) | (with_reducible apply ih3) | (with_reducible apply ih4) | (with_reducible apply ih5) | (with_reducible apply ih6) | (with_reducible apply ih7) | (with_reducible apply ih8) | (with_reducible apply ih9) | (with_reducible apply ih10) | (with_reducible apply ih11) | (with_reducible apply ih12) | (with_reducible apply ih13) | (with_reducible exact w08_currents.mono _ _ _ _ _ _ _) | (with_reducible exact w08_head.mono _) | (with_reducible exact w08_in.mono _ _ _) | (with_reducible exact w08_usable.mono _ _ _ _ _ _) | (with_reducible exact LeO.refl _) | (with_reducible exact LeO.none _) | (with_reducible refine LeO.ite ?_ ?_) | (with_reducible refine LeO.bind ?_ (fun _ => ?_))
    · intro y0 y1 y2 y3 y4 y5 y6 y7 y8 y9 y10 y11 y12 y13
      unfold w08_TreeOne.l0
      repeat' first | (with_reducible apply ih0) | (with_reducible apply ih1) | (with_reducible apply ih2) | (with_reducible apply ih3) | (with_reducible apply ih4) | (with_reducible apply ih5) | (with_reducible apply ih6) | (with_reducible apply ih7) | (with_reducible apply ih8) | (with_reducible apply ih9) | (with_reducible apply ih10) | (with_reducible apply ih11) | (with_reducible apply ih12) | (with_reducible apply ih13) | (with_reducible exact w08_currents.mono _ _ _ _ _ _ _) | (with_reducible exact w08_head.mono _) | (with_reducible exact w08_in.mono _ _ _) | (with_reducible exact w08_usable.mono _ _ _ _ _ _) | (with_reducible exact LeO.refl _) | (with_reducible exact LeO.none _) | (with_reducible refine LeO.ite ?_ ?_) | (with_reducible refine LeO.bind ?_ (fun _ => ?_))
    · intro y0 y1 y2 y3 y4 y5 y6 y7 y8 y9 y10 y11 y12 y13 y14 y15
      unfold w08_TreeOne.l1
      repeat' first | (with_reducible apply ih0) | (with_reducible apply ih1) | (with_reducible apply ih2) | (with_reducible apply ih3) | (with_reducible apply ih4) | (with_reducible apply ih5) | (with_reducible apply ih6) | (with_reducible apply ih7) | (with_reducible apply ih8) | (with_reducible apply ih9) | (with_reducible apply ih10) | (with_reducible apply ih11) | (with_reducible apply ih12) | (with_reducible apply ih13) | (with_reducible exact w08_currents.mono _ _ _ _ _ _ _) | (with_reducible exact w08_head.mono _) | (with_reducible exact w08_in.mono _ _ _) | (with_reducible exact w08_usable.mono _ _ _ _ _ _) | (with_reducible exact LeO.refl _) | (with_reducible exact LeO.none _) | (with_reducible refine LeO.ite ?_ ?_) | (with_reducible refine LeO.bind ?_ (fun _ => ?_))
    · intro y0 y1 y2 y3 y4 y5 y6 y7 y8 y9 y10 y11 y12 y13 y14 y15
      unfold w08_TreeOne.j13
      repeat' first | (with_reducible apply ih0) | (with_reducible apply ih1) | (with_reducible apply ih2) | (with_reducible apply ih3) | (with_reducible apply ih4) | (with_reducible apply ih5) | (with_reducible apply ih6) | (with_reducible apply ih7) | (with_reducible apply ih8) | (with_reducible apply ih9) | (with_reducible apply ih10) | (with_reducible apply ih11) | (with_reducible apply ih12) | (with_reducible apply ih13) | (with_reducible exact w08_currents.mono _ _ _ _ _ _ _) | (with_reducible exact w08_head.mono _) | (with_reducible exact w08_in.mono _ _ _) | (with_reducible exact w08_usable.mono _ _ _ _ _ _) | (with_reducible exact LeO.refl _) | (with_reducible exact LeO.none _) | (with_reducible refine LeO.ite ?_ ?_) | (with_reducible refine LeO.bind ?_ (fun _ => ?_))
    · intro y0 y1 y2 y3 y4 y5 y6 y7 y8 y9 y10 y11 y12 y13 y14 y15 y16 y17 y18
      unfold w08_TreeOne.j4
      repeat' first | (with_reducible apply ih0) | (with_reducible apply ih1) | (with_reducible apply ih2) | (with_reducible apply ih3) | (with_reducible apply ih4) | (with_reducible apply ih5) | (with_reducible apply ih6) | (with_reducible apply ih7) | (with_reducible apply ih8) | (with_reducible apply ih9) | (with_reducible apply ih10) | (with_reducible apply ih11) | (with_reducible apply ih12) | (with_reducible apply ih13) | (with_reducible exact w08_currents.mono _ _ _ _ _ _ _) | (with_reducible exact w08_head.mono _) | (with_reducible exact w08_in.mono _ _ _) | (with_reducible exact w08_usable.mono _ _ _ _ _ _) | (with_reducible exact LeO.refl _) | (with_reducible exact LeO.none _) | (with_reducible refine LeO.ite ?_ ?_) | (with_reducible refine LeO.bind ?_ (fun _ => ?_))
    · intro y0 y1 y2 y3 y4 y5 y6 y7 y8 y9 y10 y11 y12 y13 y14 y15 y16 y17
      unfold w08_TreeOne.j5
      repeat' first | (with_reducible apply ih0) | (with_reducible apply ih1) | (with_reducible apply ih2) | (with_reducible apply ih3) | (with_reducible apply ih4) | (with_reducible apply ih5) | (with_reducible apply ih6) | (with_reducible apply ih7) | (with_reducible apply ih8) | (with_reducible apply ih9) | (with_reducible apply ih10) | (with_reducible apply ih11) | (with_reducible apply ih12) | (with_reducible apply ih13) | (with_reducible exact w08_currents.mono _ _ _ _ _ _ _) | (with_reducible exact w08_head.mono _) | (with_reducible exact w08_in.mono _ _ _) | (with_reducible exact w08_usable.mono _ _ _ _ _ _) | (with_reducible exact LeO.refl _) | (with_reducible exact LeO.none _) | (with_reducible refine LeO.ite ?_ ?_) | (with_reducible refine LeO.bind ?_ (fun _ => ?_))
    · intro y0 y1 y2 y3 y4 y5 y6 y7 y8 y9 y10 y11 y12 y13 y14 y15 y16
      unfold w08_TreeOne.j6
      repeat' first | (with_reducible apply ih0) | (with_reducible apply ih1) | (with_reducible apply ih2) | (with_reducible apply ih3) | (with_reducible apply ih4) | (with_reducible apply ih5) | (with_reducible apply ih6) | (with_reducible apply ih7) | (with_reducible apply ih8) | (with_reducible apply ih9) | (with_reducible apply ih10) | (with_reducible apply ih11) | (with_reducible apply ih12) | (with_reducible apply ih13) | (with_reducible exact w08_currents.mono _ _ _ _ _ _ _) | (with_reducible exact w08_head.mono _) | (with_reducible exact w08_in.mono _ _ _) | (with_reducible exact w08_usable.mono _ _ _ _ _ _) | (with_reducible exact LeO.refl _) | (with_reducible exact LeO.none _) | (with_reducible refine LeO.ite ?_ ?_) | (with_reducible refine LeO.bind ?_ (fun _ => ?_))
    · intro y0 y1 y2 y3 y4 y5 y6 y7 y8 y9 y10 y11 y12 y13 y14 y15 y16 y17 y18
      unfold w08_TreeOne.j7
      repeat' first | (with_reducible apply ih0) | (with_reducible apply ih1) | (with_reducible apply ih2) | (with_reducible apply ih3) | (with_reducible apply ih4) | (with_reducible apply ih5) | (with_reducible apply ih6) | (with_reducible apply ih7) | (with_reducible apply ih8) | (with_reducible apply ih9) | (with_reducible apply ih10) | (with_reducible apply ih11) | (with_reducible apply ih12) | (with_reducible apply ih13) | (with_reducible exact w08_currents.mono _ _ _ _ _ _ _) | (with_reducible exact w08_head.mono _) | (with_reducible exact w08_in.mono _ _ _) | (with_reducible exact w08_usable.mono _ _ _ _ _ _) | (with_reducible exact LeO.refl _) | (with_reducible exact LeO.none _) | (with_reducible refine LeO.ite ?_ ?_) | (with_reducible refine LeO.bind ?_ (fun _ => ?_))
    · intro y0 y1 y2 y3 y4 y5 y6 y7 y8 y9 y10 y11 y12 y13 y14 y15 y16 y17
      unfold w08_TreeOne.j8
      repeat' first | (with_reducible apply ih0) | (with_reducible apply ih1) | (with_reducible apply ih2) | (with_reducible apply ih3) | (with_reducible apply ih4) | (with_reducible apply ih5) | (with_reducible apply ih6) | (with_reducible apply ih7) | (with_reducible apply ih8) | (with_reducible apply ih9) | (with_reducible apply ih10) | (with_reducible apply ih11) | (with_reducible apply ih12) | (with_reducible apply ih13) | (with_reducible exact w08_currents.mono _ _ _ _ _ _ _) | (with_reducible exact w08_head.mono _) | (with_reducible exact w08_in.mono _ _ _) | (with_reducible exact w08_usable.mono _ _ _ _ _ _) | (with_reducible exact LeO.refl _) | (with_reducible exact LeO.none _) | (with_reducible refine LeO.ite ?_ ?_) | (with_reducible refine LeO.bind ?_ (fun _ => ?_))
    · intro y0 y1 y2 y3 y4 y5 y6 y7 y8 y9 y10 y11 y12 y13 y14 y15 y16
      unfold w08_TreeOne.j9
      repeat' first | (with_reducible apply ih0) | (with_reducible apply ih1) | (with_reducible apply ih2) | (with_reducible apply ih3) | (with_reducible apply ih4) | (with_reducible apply ih5) | (with_reducible apply ih6) | (with_reducible apply ih7) | (with_reducible apply ih8) | (with_reducible apply ih9) | (with_reducible apply ih10) | (with_reducible apply ih11) | (with_reducible apply ih12) | (with_reducible apply ih13) | (with_reducible exact w08_currents.mono _ _ _ _ _ _ _) | (with_reducible exact w08_head.mono _) | (with_reducible exact w08_in.mono _ _ _) | (with_reducible exact w08_usable.mono _ _ _ _ _ _) | (with_reducible exact LeO.refl _) | (with_reducible exact LeO.none _) | (with_reducible refine LeO.ite ?_ ?_) | (with_reducible refine LeO.bind ?_ (fun _ => ?_))
    · intro y0 y1 y2 y3 y4 y5 y6 y7 y8 y9 y10 y11 y12 y13 y14 y15 y16 y17 y18
      unfold w08_TreeOne.j10
      repeat' first | (with_reducible apply ih0) | (with_reducible apply ih1) | (with_reducible apply ih2) | (with_reducible apply ih3) | (with_reducible apply ih4) | (with_reducible apply ih5) | (with_reducible apply ih6) | (with_reducible apply ih7) | (with_reducible apply ih8) | (with_reducible apply ih9) | (with_reducible apply ih10) | (with_reducible apply ih11) | (with_reducible apply ih12) | (with_reducible apply ih13) | (with_reducible exact w08_currents.mono _ _ _ _ _ _ _) | (with_reducible exact w08_head.mono _) | (with_reducible exact w08_in.mono _ _ _) | (with_reducible exact w08_usable.mono _ _ _ _ _ _) | (with_reducible exact LeO.refl _) | (with_reducible exact LeO.none _) | (with_reducible refine LeO.ite ?_ ?_) | (with_reducible refine LeO.bind ?_ (fun _ => ?_))
    · intro y0 y1 y2 y3 y4 y5 y6 y7 y8 y9 y10 y11 y12 y13 y14 y15 y16 y17
      unfold w08_TreeOne.j11
      repeat' first | (with_reducible apply ih0) | (with_reducible apply ih1) | (with_reducible apply ih2) | (with_reducible apply ih3) | (with_reducible apply ih4) | (with_reducible apply ih5) | (with_reducible apply ih6) | (with_reducible apply ih7) | (with_reducible apply ih8) | (with_reducible apply ih9) | (with_reducible apply ih10) | (with_reducible apply ih11) | (with_reducible apply ih12) | (with_reducible apply ih13) | (with_reducible exact w08_currents.mono _ _ _ _ _ _ _) | (with_reducible exact w08_head.mono _) | (with_reducible exact w08_in.mono _ _ _) | (with_reducible exact w08_usable.mono _ _ _ _ _ _) | (with_reducible exact LeO.refl _) | (with_reducible exact LeO.none _) | (with_reducible refine LeO.ite ?_ ?_) | (with_reducible refine LeO.bind ?_ (fun _ => ?_))
    · intro y0 y1 y2 y3 y4 y5 y6 y7 y8 y9 y10 y11 y12 y13 y14 y15 y16
      unfold w08_TreeOne.j12
      repeat' first | (with_reducible apply ih0) | (with_reducible apply ih1) | (with_reducible apply ih2) | (with_reducible apply ih3) | (with_reducible apply ih4) | (with_reducible apply ih5) | (with_reducible apply ih6) | (with_reducible apply ih7) | (with_reducible apply ih8) | (with_reducible apply ih9) | (with_reducible apply ih10) | (with_reducible apply ih11) | (with_reducible apply ih12) | (with_reducible apply ih13) | (with_reducible exact w08_currents.mono _ _ _ _ _ _ _) | (with_reducible exact w08_head.mono _) | (with_reducible exact w08_in.mono _ _ _) | (with_reducible exact w08_usable.mono _ _ _ _ _ _) | (with_reducible exact LeO.refl _) | (with_reducible exact LeO.none _) | (with_reducible refine LeO.ite ?_ ?_) | (with_reducible refine LeO.bind ?_ (fun _ => ?_))
theorem w08_TreeOne.mono : ∀ a0 a1 a2 a3 a4 a5 a6 a7 k, LeO (w08_TreeOne.f k a0 a1 a2 a3 a4 a5 a6 a7) (w08_TreeOne.f (k + 1) a0 a1 a2 a3 a4 a5 a6 a7) := by
  intro a0 a1 a2 a3 a4 a5 a6 a7 k
  obtain ⟨ih0, ih1, ih2, ih3, ih4, ih5, ih6, ih7, ih8, ih9, ih10, ih11, ih12, ih13⟩ := w08_TreeOne.mono_l k
  unfold w08_TreeOne.f
  repeat' first | (with_reducible apply ih0) | (with_reducible apply ih1) | (with_reducible apply ih2) | (with_reducible apply ih3) | (with_reducible apply ih4) | (with_reducible apply ih5) | (with_reducible apply ih6) | (with_reducible apply ih7) | (with_reducible apply ih8) | (with_reducible apply ih9) | (with_reducible apply ih10) | (with_reducible apply ih11) | (with_reducible apply ih12) | (with_reducible apply ih13) | (with_reducible exact w08_currents.mono _ _ _ _ _ _ _) | (with_reducible exact w08_head.mono _) | (with_reducible exact w08_in.mono _ _ _) | (with_reducible exact w08_usable.mono _ _ _ _ _ _) | (with_reducible exact LeO.refl _) | (with_reducible exact LeO.none _) | (with_reducible refine LeO.ite ?_ ?_) | (with_reducible refine LeO.bind ?_ (fun _ => ?_))
def w08_TreeOne.T11 : Bool × List (List Nat × List Nat) := (true, [([], []), ([], []), ([1], [1]), ([2, 2], [2]), ([0, 3], [0, 3]), ([4], [4]), ([5], [5]), ([5], [5]), ([6, 4, 0, 1, 2, 3, 4, 5, 6], [6]), ([7, 8, 0, 1, 2, 3, 4, 5, 6, 7, 8], [7])])
def w08_TreeOne.B11 : List Nat := [0, 0, 2, 6, 15, 31, 63, 63, 127, 511]
theorem w08_TreeOne.tab11 : rtab .any (opsOf Try.f8 11) = w08_TreeOne.T11 := by kernel_rfl
theorem w08_TreeOne.bits11 : waitsOk w08_TreeOne.T11.2 w08_TreeOne.B11 = true := by kernel_rfl
set_option maxHeartbeats 8000000 in
set_option maxRecDepth 100000 in
theorem w08_TreeOne.calls (k : Nat) (A0_0 : Option Addr) (c0_0 : Nat) (l0_0 : List (S48)) (A0_1 : Option Addr) (c0_1 : Nat) (l0_1 : List (S62)) (A0_2 : Option Addr) (c0_2 : Nat) (l0_2 : List (S84)) (A0_3 : Option Addr) (c0_3 : Nat) (l0_3 : List (S42)) (A0_4 : Option Addr) (c0_4 : Nat) (l0_4 : List (S87)) (A1 : Option Addr) (c1 : Nat) (l1 : List Int) (a2 : Int) (a3 : Int) (r : Bool) (w : World) (hr0_0 : Kd.C k48 w A0_0 l0_0.length l0_0) (hc0_0 : l0_0.length ≤ c0_0) (hr0_1 : Kd.C k62 w A0_1 l0_1.length l0_1) (hc0_1 : l0_1.length ≤ c0_1) (hr0_2 : Kd.C k84 w A0_2 l0_2.length l0_2) (hc0_2 : l0_2.length ≤ c0_2) (hr0_3 : Kd.C k42 w A0_3 l0_3.length l0_3) (hc0_3 : l0_3.length ≤ c0_3) (hr0_4 : Kd.C k87 w A0_4 l0_4.length l0_4) (hc0_4 : l0_4.length ≤ c0_4) (hr1 : Kd.C (Kd.int .u8) w A1 l1.length l1) (hc1 : l1.length ≤ c1) (h : w08_TreeOne.f k l0_0 l0_1 l0_2 l0_3 l0_4 l1 a2 a3 = some r) :
    Calls Try.prog 8 #[.agg #[.slice A0_0 l0_0.length c0_0, .slice A0_1 l0_1.length c0_1, .slice A0_2 l0_2.length c0_2, .slice A0_3 l0_3.length c0_3, .slice A0_4 l0_4.length c0_4], .slice A1 l1.length c1, .int .u8 a2, .int .u8 a3] w fun e w' => e = .returned (.bool r) ∧ Below w.heap.size w w' := by
 have hu28 := Try.underlying28
 have HR0_0 := Aside0.mk hr0_0
 have HC0_0 := Aside0.mk hc0_0
 clear hr0_0 hc0_0
 have HR0_1 := Aside0.mk hr0_1
 have HC0_1 := Aside0.mk hc0_1
 clear hr0_1 hc0_1
 have HR0_2 := Aside0.mk hr0_2
 have HC0_2 := Aside0.mk hc0_2
 clear hr0_2 hc0_2
 have HR0_3 := Aside0.mk hr0_3
 have HC0_3 := Aside0.mk hc0_3
 clear hr0_3 hc0_3
 have HR0_4 := Aside0.mk hr0_4
 have HC0_4 := Aside0.mk hc0_4
 clear hr0_4 hc0_4
 have HR1 := Aside0.mk hr1
 have HC1 := Aside0.mk hc1
 clear hr1 hc1
 have HB := Aside0.mk (Below.refl w.heap.size w)
 (try unfold w08_TreeOne.f at h)
 have H := h
 clear h
 obtain ⟨t549, A5, H⟩ := bnd H
 have HC6 := Aside0.mk H
 clear H
 go_enter Try.func8, Try.ntmps8
 go_upto_region 2 with (first | ((with_reducible refine gate_dst (N := 4) rfl ?_); (try (refine gate_guard (by rfl) ?_; dsimp only)); refine bE 4 28 #[.slice A0_0 l0_0.length c0_0, .slice A0_1 l0_1.length c0_1, .slice A0_2 l0_2.length c0_2, .slice A0_3 l0_3.length c0_3, .slice A0_4 l0_4.length c0_4] ?_; intro gb548 hg w7 hbox hb; have BK548 := Aside0.mk hbox; have GW548 := gE hg (kB HB); have GE548 := gE hg (kB HB); replace HB := bS (kB HB) hb; clear hb hbox hg) | ((with_reducible refine gate_callee (f := 10) rfl ?_); refine gL (some 25) Try.func10 #[] (w08_head.calls k  t549 _ A5.out) ?_; rintro e w8 ⟨rfl, hb⟩; refine ⟨_, rfl, ?_⟩; replace BK548 := bK BK548 hb; replace HB := bS (kB1 HB GE548) hb))
 (try simp only [Act.put, List.setIfInBounds_toArray, List.set_cons_zero, List.set_cons_succ])
 go_cut [34] (fun v34 wc => ∃ (kq : Nat) (x34_5 : Bool), v34 = .bool x34_5 ∧ Aside0 (w08_TreeOne.j0 kq l1 a2 a3 t549 x34_5 l0_0 l0_1 l0_2 l0_3 l0_4 = some r) ∧ Aside0 (kq ≤ k) ∧ Aside0 (wc.heap[gb548]? = some (.cells #[(.slice A0_0 l0_0.length c0_0), (.slice A0_1 l0_1.length c0_1), (.slice A0_2 l0_2.length c0_2), (.slice A0_3 l0_3.length c0_3), (.slice A0_4 l0_4.length c0_4)] 28 (0, 0))) ∧ Aside0 (Below w.heap.size w wc))
 case first =>
  have H := HC6.out
  clear HC6
  obtain ⟨t550, A9, H⟩ := bnd H
  by_cases c10 : t550 = true
  rotate_left
  ·replace c10 := Bool.eq_false_iff.mpr c10
   subst c10
   replace H := ifF H
   have H' := Aside0.mk H
   clear H
   obtain ⟨⟨_,_,_,_,_⟩,_,_,_,_,_⟩ := bx5 BK548
   go_wp2_with (first | ((with_reducible refine gate_callee (f := 20) rfl ?_); refine gL (some 27) Try.func20 #[.agg #[.slice A0_0 l0_0.length c0_0, .slice A0_1 l0_1.length c0_1, .slice A0_2 l0_2.length c0_2, .slice A0_3 l0_3.length c0_3, .slice A0_4 l0_4.length c0_4]] (w08_usable.calls k _ _ l0_0 _ _ l0_1 _ _ l0_2 _ _ l0_3 _ _ l0_4 false _ (sC HR0_0 HB) HC0_0.out (sC HR0_1 HB) HC0_1.out (sC HR0_2 HB) HC0_2.out (sC HR0_3 HB) HC0_3.out (sC HR0_4 HB) HC0_4.out A9.out) ?_; rintro e w15 ⟨rfl, hb⟩; refine ⟨_, rfl, ?_⟩; replace BK548 := bK BK548 hb; replace HB := bS (kB1 HB GE548) hb))
   go_meet
   case rel => exact ⟨_, (true), tQ, H', ⟨tN⟩, ⟨kK BK548⟩, ⟨kB1 HB GE548⟩⟩
  subst c10
  replace H := ifT H
  have H' := Aside0.mk H
  clear H
  obtain ⟨⟨_,_,_,_,_⟩,_,_,_,_,_⟩ := bx5 BK548
  go_wp2_with (first | ((with_reducible refine gate_callee (f := 20) rfl ?_); refine gL (some 27) Try.func20 #[.agg #[.slice A0_0 l0_0.length c0_0, .slice A0_1 l0_1.length c0_1, .slice A0_2 l0_2.length c0_2, .slice A0_3 l0_3.length c0_3, .slice A0_4 l0_4.length c0_4]] (w08_usable.calls k _ _ l0_0 _ _ l0_1 _ _ l0_2 _ _ l0_3 _ _ l0_4 true _ (sC HR0_0 HB) HC0_0.out (sC HR0_1 HB) HC0_1.out (sC HR0_2 HB) HC0_2.out (sC HR0_3 HB) HC0_3.out (sC HR0_4 HB) HC0_4.out A9.out) ?_; rintro e w12 ⟨rfl, hb⟩; refine ⟨_, rfl, ?_⟩; replace BK548 := bK BK548 hb; replace HB := bS (kB1 HB GE548) hb; obtain ⟨⟨_,_,_,_,_⟩,_,_,_,_,_⟩ := bx5 BK548))
  go_meet
  case rel => exact ⟨_, (((l0_3.length : Int) == 0)), tQ, H', ⟨tN⟩, ⟨kK BK548⟩, ⟨kB1 HB GE548⟩⟩
 case rest =>
  clear HC6
  obtain ⟨kq, x34_5, rfl, HA, HJ5, BK548, HB⟩ := hcut
  cases kq with
  | zero => exact absurd HA.out (by simp [w08_TreeOne.j0])
  | succ kj5 =>
   have H := HA.out
   clear HA
   simp only [w08_TreeOne.j0] at H
   by_cases c16 : x34_5 = true
   ·subst c16
    replace H := ifT H
    obtain rfl := Option.some.inj H
    go_wp2
    go_ret
    exact ⟨tE, kB1 HB GE548⟩
   replace c16 := Bool.eq_false_iff.mpr c16
   subst c16
   replace H := ifF H
   by_cases c17 : (l0_3.length : Int) = 0
   ·rw [if_pos c17] at H
    exact absurd H (by simp)
   rw [if_neg c17] at H
   have c17b0 : ((l0_3.length : Int) == 0) = false := beq_eq_false_iff_ne.mpr c17
   have c17b1 : ((l0_3.length : Int) != 0) = true := bne_iff_ne.mpr c17
   have c17b2 : ¬ (l0_3 = []) := fun h_ => c17 (by rw [h_]; rfl)
   obtain ⟨t551, A18, H⟩ := bnd H
   obtain ⟨y554, hy554⟩ : ∃ y_ : List Int, y_ = (([] : List Int)) := ⟨_, rfl⟩
   replace H : (if y554.length + t551.length < 17592186044416 then ((some (y554 ++ t551 : List Int)).bind fun y557 => (if 0 ≤ (Int.tmod (wrap64 (a2)) (l0_3.length : Int)) then (if (Int.tmod (wrap64 (a2)) (l0_3.length : Int)) < (t551.length : Int) then (if (wrap64 (81 - (rd t551 (Int.tmod (wrap64 (a2)) (l0_3.length : Int))))) = 0 then (none) else (if (Int.tmod (wrap64 (a2)) (l0_3.length : Int)) < (y557.length : Int) then ((w08_loads.f l0_0 l0_1 l0_2 l0_3 l0_4 t551).bind fun bt563 => ((w08_loads.f l0_0 l0_1 l0_2 l0_3 l0_4 (y557.set ((Int.tmod (wrap64 (a2)) (l0_3.length : Int)) : Int).toNat (wrap64 ((rd y557 (Int.tmod (wrap64 (a2)) (l0_3.length : Int))) + (Int.tmod (wrap64 (a3)) (wrap64 (81 - (rd t551 (Int.tmod (wrap64 (a2)) (l0_3.length : Int)))))))))).bind fun bt567 => (if 0 ≤ (t551.length : Int) then (if ((t551.length : Int) : Int).toNat ≤ 35184372088832 then ((w08_loads.f l0_0 l0_1 l0_2 l0_3 l0_4 (List.replicate ((t551.length : Int) : Int).toNat 0)).bind fun bt574 => ((tree_Path.f l0_0 l0_1 l0_2 l0_3 l0_4 (Int.tmod (wrap64 (a2)) (l0_3.length : Int))).bind fun bt578 => (if bt563.2 = true then (if bt567.2 = true then (if bt574.2 = true then (w08_TreeOne.j1 kj5 t549 (Int.tmod (wrap64 (a2)) (l0_3.length : Int)) (Int.tmod (wrap64 (a3)) (wrap64 (81 - (rd t551 (Int.tmod (wrap64 (a2)) (l0_3.length : Int)))))) bt563.1 bt567.1 bt574.1 bt578.1 (bt578.2 != 0) l0_0 l0_1 l0_2 l0_3 l0_4) else (w08_TreeOne.j1 kj5 t549 (Int.tmod (wrap64 (a2)) (l0_3.length : Int)) (Int.tmod (wrap64 (a3)) (wrap64 (81 - (rd t551 (Int.tmod (wrap64 (a2)) (l0_3.length : Int)))))) bt563.1 bt567.1 bt574.1 bt578.1 true l0_0 l0_1 l0_2 l0_3 l0_4)) else (w08_TreeOne.j1 kj5 t549 (Int.tmod (wrap64 (a2)) (l0_3.length : Int)) (Int.tmod (wrap64 (a3)) (wrap64 (81 - (rd t551 (Int.tmod (wrap64 (a2)) (l0_3.length : Int)))))) bt563.1 bt567.1 bt574.1 bt578.1 true l0_0 l0_1 l0_2 l0_3 l0_4)) else (w08_TreeOne.j1 kj5 t549 (Int.tmod (wrap64 (a2)) (l0_3.length : Int)) (Int.tmod (wrap64 (a3)) (wrap64 (81 - (rd t551 (Int.tmod (wrap64 (a2)) (l0_3.length : Int)))))) bt563.1 bt567.1 bt574.1 bt578.1 true l0_0 l0_1 l0_2 l0_3 l0_4)))) else (none)) else (none)))) else (none))) else (none)) else (none))) else (none)) = some r := by first | (rw [hy554]; with_reducible exact H) | (have H2_ := (Option.bind_some _ _).symm.trans H; rw [hy554]; with_reducible exact H2_) | (have H2_ := (Option.bind_some _ _).symm.trans H; with_reducible exact H2_) | with_reducible exact H | (rw [hy554]; exact H) | exact H
   have Ny554 := Aside0.mk hy554
   clear hy554
   by_cases c19 : y554.length + t551.length < 17592186044416
   rotate_left
   ·rw [if_neg c19] at H
    exact absurd H (by simp)
   rw [if_pos c19] at H
   have LMc19 := Aside0.mk c19
   clear c19
   obtain ⟨y557, hy557⟩ : ∃ y_ : List Int, y_ = (y554 ++ t551) := ⟨_, rfl⟩
   replace H : (if 0 ≤ (Int.tmod (wrap64 (a2)) (l0_3.length : Int)) then (if (Int.tmod (wrap64 (a2)) (l0_3.length : Int)) < (t551.length : Int) then (if (wrap64 (81 - (rd t551 (Int.tmod (wrap64 (a2)) (l0_3.length : Int))))) = 0 then (none) else (if (Int.tmod (wrap64 (a2)) (l0_3.length : Int)) < (y557.length : Int) then ((w08_loads.f l0_0 l0_1 l0_2 l0_3 l0_4 t551).bind fun bt563 => ((w08_loads.f l0_0 l0_1 l0_2 l0_3 l0_4 (y557.set ((Int.tmod (wrap64 (a2)) (l0_3.length : Int)) : Int).toNat (wrap64 ((rd y557 (Int.tmod (wrap64 (a2)) (l0_3.length : Int))) + (Int.tmod (wrap64 (a3)) (wrap64 (81 - (rd t551 (Int.tmod (wrap64 (a2)) (l0_3.length : Int)))))))))).bind fun bt567 => (if 0 ≤ (t551.length : Int) then (if ((t551.length : Int) : Int).toNat ≤ 35184372088832 then ((w08_loads.f l0_0 l0_1 l0_2 l0_3 l0_4 (List.replicate ((t551.length : Int) : Int).toNat 0)).bind fun bt574 => ((tree_Path.f l0_0 l0_1 l0_2 l0_3 l0_4 (Int.tmod (wrap64 (a2)) (l0_3.length : Int))).bind fun bt578 => (if bt563.2 = true then (if bt567.2 = true then (if bt574.2 = true then (w08_TreeOne.j1 kj5 t549 (Int.tmod (wrap64 (a2)) (l0_3.length : Int)) (Int.tmod (wrap64 (a3)) (wrap64 (81 - (rd t551 (Int.tmod (wrap64 (a2)) (l0_3.length : Int)))))) bt563.1 bt567.1 bt574.1 bt578.1 (bt578.2 != 0) l0_0 l0_1 l0_2 l0_3 l0_4) else (w08_TreeOne.j1 kj5 t549 (Int.tmod (wrap64 (a2)) (l0_3.length : Int)) (Int.tmod (wrap64 (a3)) (wrap64 (81 - (rd t551 (Int.tmod (wrap64 (a2)) (l0_3.length : Int)))))) bt563.1 bt567.1 bt574.1 bt578.1 true l0_0 l0_1 l0_2 l0_3 l0_4)) else (w08_TreeOne.j1 kj5 t549 (Int.tmod (wrap64 (a2)) (l0_3.length : Int)) (Int.tmod (wrap64 (a3)) (wrap64 (81 - (rd t551 (Int.tmod (wrap64 (a2)) (l0_3.length : Int)))))) bt563.1 bt567.1 bt574.1 bt578.1 true l0_0 l0_1 l0_2 l0_3 l0_4)) else (w08_TreeOne.j1 kj5 t549 (Int.tmod (wrap64 (a2)) (l0_3.length : Int)) (Int.tmod (wrap64 (a3)) (wrap64 (81 - (rd t551 (Int.tmod (wrap64 (a2)) (l0_3.length : Int)))))) bt563.1 bt567.1 bt574.1 bt578.1 true l0_0 l0_1 l0_2 l0_3 l0_4)))) else (none)) else (none)))) else (none))) else (none)) else (none)) = some r := by first | (rw [hy557]; with_reducible exact H) | (have H2_ := (Option.bind_some _ _).symm.trans H; rw [hy557]; with_reducible exact H2_) | (have H2_ := (Option.bind_some _ _).symm.trans H; with_reducible exact H2_) | with_reducible exact H | (rw [hy557]; exact H) | exact H
   have Ny557 := Aside0.mk hy557
   clear hy557
   obtain ⟨ji20, hji20⟩ : ∃ j_ : Int, (Int.tmod (wrap64 (a2)) (l0_3.length : Int)) = j_ := ⟨_, rfl⟩
   replace H : (if 0 ≤ (ji20) then (if (ji20) < (t551.length : Int) then (if (wrap64 (81 - (rd t551 (ji20)))) = 0 then (none) else (if (ji20) < (y557.length : Int) then ((w08_loads.f l0_0 l0_1 l0_2 l0_3 l0_4 t551).bind fun bt563 => ((w08_loads.f l0_0 l0_1 l0_2 l0_3 l0_4 (y557.set ((ji20) : Int).toNat (wrap64 ((rd y557 (ji20)) + (Int.tmod (wrap64 (a3)) (wrap64 (81 - (rd t551 (ji20))))))))).bind fun bt567 => (if 0 ≤ (t551.length : Int) then (if ((t551.length : Int) : Int).toNat ≤ 35184372088832 then ((w08_loads.f l0_0 l0_1 l0_2 l0_3 l0_4 (List.replicate ((t551.length : Int) : Int).toNat 0)).bind fun bt574 => ((tree_Path.f l0_0 l0_1 l0_2 l0_3 l0_4 (ji20)).bind fun bt578 => (if bt563.2 = true then (if bt567.2 = true then (if bt574.2 = true then (w08_TreeOne.j1 kj5 t549 ji20 (Int.tmod (wrap64 (a3)) (wrap64 (81 - (rd t551 (ji20))))) bt563.1 bt567.1 bt574.1 bt578.1 (bt578.2 != 0) l0_0 l0_1 l0_2 l0_3 l0_4) else (w08_TreeOne.j1 kj5 t549 ji20 (Int.tmod (wrap64 (a3)) (wrap64 (81 - (rd t551 (ji20))))) bt563.1 bt567.1 bt574.1 bt578.1 true l0_0 l0_1 l0_2 l0_3 l0_4)) else (w08_TreeOne.j1 kj5 t549 ji20 (Int.tmod (wrap64 (a3)) (wrap64 (81 - (rd t551 (ji20))))) bt563.1 bt567.1 bt574.1 bt578.1 true l0_0 l0_1 l0_2 l0_3 l0_4)) else (w08_TreeOne.j1 kj5 t549 ji20 (Int.tmod (wrap64 (a3)) (wrap64 (81 - (rd t551 (ji20))))) bt563.1 bt567.1 bt574.1 bt578.1 true l0_0 l0_1 l0_2 l0_3 l0_4)))) else (none)) else (none)))) else (none))) else (none)) else (none)) = some r := by first | (rw [hji20] at H; exact H) | (simp only [hji20] at H ⊢; exact H)
   (try rw [hji20] at A18)
   by_cases c21 : 0 ≤ (ji20)
   rotate_left
   ·rw [if_neg c21] at H
    exact absurd H (by simp)
   rw [if_pos c21] at H
   have c21b0 : decide (0 ≤ (ji20)) = true := decide_eq_true c21
   clear c21
   by_cases c22 : (ji20) < (t551.length : Int)
   rotate_left
   ·rw [if_neg c22] at H
    exact absurd H (by simp)
   rw [if_pos c22] at H
   have c22b0 : decide ((ji20) < (t551.length : Int)) = true := decide_eq_true c22
   clear c22
   by_cases c23 : (wrap64 (81 - (rd t551 (ji20)))) = 0
   ·rw [if_pos c23] at H
    exact absurd H (by simp)
   rw [if_neg c23] at H
   have c23b0 : ((wrap64 (81 - (rd t551 (ji20)))) == 0) = false := beq_eq_false_iff_ne.mpr c23
   have c23b1 : ((wrap64 (81 - (rd t551 (ji20)))) != 0) = true := bne_iff_ne.mpr c23
   by_cases c24 : (ji20) < (y557.length : Int)
   rotate_left
   ·rw [if_neg c24] at H
    exact absurd H (by simp)
   rw [if_pos c24] at H
   have c24b0 : decide ((ji20) < (y557.length : Int)) = true := decide_eq_true c24
   clear c24
   obtain ⟨y562, hy562⟩ : ∃ y_ : List Int, y_ = (y557.set ((ji20) : Int).toNat (wrap64 ((rd y557 (ji20)) + (Int.tmod (wrap64 (a3)) (wrap64 (81 - (rd t551 (ji20)))))))) := ⟨_, rfl⟩
   replace H : ((w08_loads.f l0_0 l0_1 l0_2 l0_3 l0_4 t551).bind fun bt563 => ((w08_loads.f l0_0 l0_1 l0_2 l0_3 l0_4 y562).bind fun bt567 => (if 0 ≤ (t551.length : Int) then (if ((t551.length : Int) : Int).toNat ≤ 35184372088832 then ((w08_loads.f l0_0 l0_1 l0_2 l0_3 l0_4 (List.replicate ((t551.length : Int) : Int).toNat 0)).bind fun bt574 => ((tree_Path.f l0_0 l0_1 l0_2 l0_3 l0_4 (ji20)).bind fun bt578 => (if bt563.2 = true then (if bt567.2 = true then (if bt574.2 = true then (w08_TreeOne.j1 kj5 t549 ji20 (Int.tmod (wrap64 (a3)) (wrap64 (81 - (rd t551 (ji20))))) bt563.1 bt567.1 bt574.1 bt578.1 (bt578.2 != 0) l0_0 l0_1 l0_2 l0_3 l0_4) else (w08_TreeOne.j1 kj5 t549 ji20 (Int.tmod (wrap64 (a3)) (wrap64 (81 - (rd t551 (ji20))))) bt563.1 bt567.1 bt574.1 bt578.1 true l0_0 l0_1 l0_2 l0_3 l0_4)) else (w08_TreeOne.j1 kj5 t549 ji20 (Int.tmod (wrap64 (a3)) (wrap64 (81 - (rd t551 (ji20))))) bt563.1 bt567.1 bt574.1 bt578.1 true l0_0 l0_1 l0_2 l0_3 l0_4)) else (w08_TreeOne.j1 kj5 t549 ji20 (Int.tmod (wrap64 (a3)) (wrap64 (81 - (rd t551 (ji20))))) bt563.1 bt567.1 bt574.1 bt578.1 true l0_0 l0_1 l0_2 l0_3 l0_4)))) else (none)) else (none)))) = some r := by first | (rw [hy562]; with_reducible exact H) | (have H2_ := (Option.bind_some _ _).symm.trans H; rw [hy562]; with_reducible exact H2_) | (have H2_ := (Option.bind_some _ _).symm.trans H; with_reducible exact H2_) | with_reducible exact H | (rw [hy562]; exact H) | exact H
   have Ny562 := Aside0.mk hy562
   clear hy562
   obtain ⟨⟨t563, t566⟩, A26, H⟩ := bnd H
   dsimp only at H
   obtain ⟨⟨t567, t570⟩, A27, H⟩ := bnd H
   dsimp only at H
   by_cases c28 : 0 ≤ (t551.length : Int)
   rotate_left
   ·rw [if_neg c28] at H
    exact absurd H (by simp)
   rw [if_pos c28] at H
   have c28b0 := eq_true c28
   have c28b1 : decide (0 ≤ (t551.length : Int)) = true := decide_eq_true c28
   clear c28
   by_cases c29 : ((t551.length : Int) : Int).toNat ≤ 35184372088832
   rotate_left
   ·rw [if_neg c29] at H
    exact absurd H (by simp)
   rw [if_pos c29] at H
   have c29b0 := eq_true c29
   have c29b1 : decide (((t551.length : Int) : Int).toNat ≤ 35184372088832) = true := decide_eq_true c29
   clear c29
   obtain ⟨y571, hy571⟩ : ∃ y_ : List Int, y_ = (List.replicate ((t551.length : Int) : Int).toNat 0) := ⟨_, rfl⟩
   replace H : ((w08_loads.f l0_0 l0_1 l0_2 l0_3 l0_4 y571).bind fun bt574 => ((tree_Path.f l0_0 l0_1 l0_2 l0_3 l0_4 (ji20)).bind fun bt578 => (if t566 = true then (if t570 = true then (if bt574.2 = true then (w08_TreeOne.j1 kj5 t549 ji20 (Int.tmod (wrap64 (a3)) (wrap64 (81 - (rd t551 (ji20))))) t563 t567 bt574.1 bt578.1 (bt578.2 != 0) l0_0 l0_1 l0_2 l0_3 l0_4) else (w08_TreeOne.j1 kj5 t549 ji20 (Int.tmod (wrap64 (a3)) (wrap64 (81 - (rd t551 (ji20))))) t563 t567 bt574.1 bt578.1 true l0_0 l0_1 l0_2 l0_3 l0_4)) else (w08_TreeOne.j1 kj5 t549 ji20 (Int.tmod (wrap64 (a3)) (wrap64 (81 - (rd t551 (ji20))))) t563 t567 bt574.1 bt578.1 true l0_0 l0_1 l0_2 l0_3 l0_4)) else (w08_TreeOne.j1 kj5 t549 ji20 (Int.tmod (wrap64 (a3)) (wrap64 (81 - (rd t551 (ji20))))) t563 t567 bt574.1 bt578.1 true l0_0 l0_1 l0_2 l0_3 l0_4)))) = some r := by first | (rw [hy571]; with_reducible exact H) | (have H2_ := (Option.bind_some _ _).symm.trans H; rw [hy571]; with_reducible exact H2_) | (have H2_ := (Option.bind_some _ _).symm.trans H; with_reducible exact H2_) | with_reducible exact H | (rw [hy571]; exact H) | exact H
   have Ny571 := Aside0.mk hy571
   clear hy571
   obtain ⟨⟨t574, t577⟩, A30, H⟩ := bnd H
   dsimp only at H
   obtain ⟨⟨t578, t581⟩, A31, H⟩ := bnd H
   dsimp only at H
   have HC32 := Aside0.mk H
   clear H
   obtain ⟨⟨_,_,_,_,_⟩,_,_,_,_,_⟩ := bx5 BK548
   try go_wp2_with (first | ((with_reducible refine gate_callee (f := 22) rfl ?_); refine gL (some 44) Try.func22 #[.agg #[.slice A0_0 l0_0.length c0_0, .slice A0_1 l0_1.length c0_1, .slice A0_2 l0_2.length c0_2, .slice A0_3 l0_3.length c0_3, .slice A0_4 l0_4.length c0_4], .slice A1 l1.length c1] (w08_currents.calls kj5 _ _ l0_0 _ _ l0_1 _ _ l0_2 _ _ l0_3 _ _ l0_4 _ _ l1 t551 _ (sC HR0_0 HB) HC0_0.out (sC HR0_1 HB) HC0_1.out (sC HR0_2 HB) HC0_2.out (sC HR0_3 HB) HC0_3.out (sC HR0_4 HB) HC0_4.out (sC HR1 HB) HC1.out A18.out) ?_; rintro e w34 ⟨v552, rfl, ho0, hb⟩; refine ⟨_, rfl, ?_⟩; have HO553 := Aside0.mk (Kd.R_lower ho0 (below_size (kB1 HB GE548))); replace BK548 := bK BK548 hb; replace HB := bS (kB1 HB GE548) hb) | ((with_reducible refine gate_dst (N := 45) rfl ?_); (try (refine gate_guard (by rfl) ?_; dsimp only)); refine Kd.R_lit (Kd.int .i64) _ 3 ?hg (N := 45) ?hd (xs := ([] : List Int)) (inner := []) (ok := fun _ => True) (okp := fun _ => True) ?hr ?hp (fun _ hk => hk) trivial (Below.refl _ _) (Nat.le_refl _) (by simp) ?_; (case hd => rfl); (case hg => rfl); (case hr => first | (go_simp; done) | (go_simp; rfl)); (case hp => exact (Reps.none _ _)); intro v555 w35 ho36 hb hg_ hnew_; clear hg_ hnew_; (first | rw [← Ny554.out] at ho36 | (simp only [Int.reduceToNat] at ho36; rw [← Ny554.out] at ho36)); have HO556 := Aside0.mk (Kd.R_lower (Kd.R_new' ho36 (Kd.R_lt (kR HO553))) (below_size (kB1 HB GE548))); replace HO553 := Aside0.mk (Kd.R_elder' (kR HO553) (Kd.R_base ho36) hb); replace BK548 := bK BK548 hb; replace HB := bS (kB1 HB GE548) hb; clear hb ho36; obtain ⟨Ao38, co38, eo38⟩ := Kd.R_slice HO553.out; subst eo38) | ((with_reducible refine gate_builtin (b := .append) (xs := #[.tmp 45, .tmp 46]) rfl ?_); (try (refine gate_guard (by rfl) ?_; dsimp only)); at_builtin; refine Kd.R_append_rows (Kd.int .i64) (w0 := w) w.heap.size rfl (.tmp 45) (.tmp 46) 29 3 (.int .i64 0) 8 rfl Try.underlying29 info3 rfl (by decide) (by omega) v555 y554 t551 _ _ _ (fun k_ => some k_ ≠ (.slice Ao38 t551.length co38 : Value).ownBlock) (fun _ => False) rfl rfl ?aO ?aR (fun _ _ h => h) (fun _ h => h.elim) ?aF ?aB ?aS ?aL ?_; (case aR => exact kC (Kd.R_reads' HO553.out).2.2); (case aB => exact (kB1 HB GE548)); (case aF => exact (fun k_ hk => Kd.fresh' (Kd.R_lt (kR HO553)) k_ hk)); (case aO => exact (by (with_reducible repeat (first | apply Kd.R_alloc | apply Kd.R_drewN | apply Kd.R_drew)); exact Kd.R_mono HO556.out (fun _ hk => hk.2))); (case aS => exact (below_size (kB1 HB GE548))); (case aL => have := LMc19.out; omega); intro v558 w37 ho hb hg hat; rw [← Ny557.out] at ho; replace BK548 := Aside0.mk (blk_grown (g := gb548) (o := .cells #[.slice A0_0 l0_0.length c0_0, .slice A0_1 l0_1.length c0_1, .slice A0_2 l0_2.length c0_2, .slice A0_3 l0_3.length c0_3, .slice A0_4 l0_4.length c0_4] 28 (0, 0)) (kK BK548) hg (Kd.R_ne HO556.out BK548.out (by decide))); replace HO553 := Aside0.mk (Kd.R_after (ok := (fun _ => True)) (kR HO553) hg hat); replace HB := Aside0.mk hb; have HO559 := Aside0.mk ho; clear HO556; clear ho hb hg hat; have p560 : 0 ≤ ((ji20) : Int) := tD; have q560 : (ji20) < (t551.length : Int) := tD; obtain ⟨ad560, e560, hx560_0⟩ := Kd.at_int (Kd.R_reads' HO553.out).2.2 (ji20) p560 q560; cases e560; replace p560 := eq_true p560; replace q560 := eq_true q560; obtain ⟨Ao39, co39, eo39⟩ := Kd.R_slice HO559.out; subst eo39; have p561 : 0 ≤ ((ji20) : Int) := tD; have q561 : (ji20) < (y557.length : Int) := tD; obtain ⟨ad561, e561, hx561_0⟩ := Kd.at_int (Kd.R_reads' HO559.out).2.2 (ji20) p561 q561; cases e561; replace p561 := eq_true p561; replace q561 := eq_true q561; have p25 : 0 ≤ ((ji20) : Int) := tD; have q25 : ((ji20) : Int) < ((y557.length : Int) : Int) := tD; obtain ⟨go25, co25, eo25, gb25, gl25, cl25, HG25⟩ := Kd.R_form HO559.out (by omega); (first | cases eo25 | (injection eo25 with ea_ en_ ec_; (first | subst ea_ | (injection ea_ with ea_; subst ea_)); subst ec_; clear en_)); have GB25 := Aside0.mk gb25; have GG25 := Aside0.mk HG25; clear gb25 gl25 HG25; (first | simp only [add_plain] at hx561_0 | skip); obtain ⟨hx25_0, hf25_0⟩ := Kd.R_celln 0 HO559.out ((ji20) : Int) p25 q25; replace p25 := eq_true p25; replace q25 := eq_true q25; obtain ⟨hy40_, hz40_⟩ := Kd.R_celln 0 HO559.out ((ji20) : Int) (tD) (tD); have HP40 := Kd.R_putg HO559.out ((ji20) : Int) (wrap64 ((rd y557 (ji20)) + (Int.tmod (wrap64 (a3)) (wrap64 (81 - (rd t551 (ji20)))))))) | ((with_reducible refine gate_store (t := 3) (p := 62) rfl ?_); refine store_event (t := 3) (p := 62) (v := ?vo_w41) (w1 := (w37.setCell ⟨go25, ((ji20) : Int).toNat, none⟩ (.int .i64 (wrap64 ((rd y557 (ji20)) + (Int.tmod (wrap64 (a3)) (wrap64 (81 - (rd t551 (ji20)))))))))) ?hg ?ho ?hn ?hr ?_; (case ho => rfl); (case hg => rfl); (case hn => rfl); (case hr => first | (go_simp; done) | (go_simp; rfl)); intro w41 hw; have hg : w37.grownBy w41 (some go25) := (by rw [hw]; exact HP40.2); have hp_ : Kd.R (Kd.int .i64) 3 w41 w.heap.size (fun k_ => some k_ ≠ (.slice (some ad560) t551.length co38 : Value).ownBlock) (.slice (some ⟨go25, 0, none⟩) y557.length co39) y562 := (by rw [hw, Ny562.out]; exact HP40.1); clear HP40; replace BK548 := Aside0.mk (blk_grown (g := gb548) (o := .cells #[.slice A0_0 l0_0.length c0_0, .slice A0_1 l0_1.length c0_1, .slice A0_2 l0_2.length c0_2, .slice A0_3 l0_3.length c0_3, .slice A0_4 l0_4.length c0_4] 28 (0, 0)) (kK BK548) hg (Kd.R_ne HO559.out BK548.out (by decide))); replace HO553 := Aside0.mk (Kd.R_after (v := (.slice (some ⟨go25, 0, none⟩) y557.length co39)) (v1 := (.slice (some ⟨go25, 0, none⟩) y557.length co39)) (ok := (fun _ => True)) (kR HO553) hg (.inl rfl)); replace HO559 := Aside0.mk hp_; replace HB := Aside0.mk ((by rw [hw]; exact below_set (HB.out) GB25.out : Below w.heap.size w w41)); clear hg hw hp_; obtain ⟨⟨_,_,_,_,_⟩,_,_,_,_,_⟩ := bx5 BK548) | ((with_reducible refine gate_callee (f := 23) rfl ?_); refine gL (some 66) Try.func23 #[.agg #[.slice A0_0 l0_0.length c0_0, .slice A0_1 l0_1.length c0_1, .slice A0_2 l0_2.length c0_2, .slice A0_3 l0_3.length c0_3, .slice A0_4 l0_4.length c0_4], .slice (some ad560) t551.length co38] (w08_loads.calls _ _ l0_0 _ _ l0_1 _ _ l0_2 _ _ l0_3 _ _ l0_4 _ _ t551 t563 t566 _ (sC HR0_0 HB) HC0_0.out (sC HR0_1 HB) HC0_1.out (sC HR0_2 HB) HC0_2.out (sC HR0_3 HB) HC0_3.out (sC HR0_4 HB) HC0_4.out (kC (Kd.R_reads' HO553.out).2.2) ((Kd.R_reads' HO553.out).2.1) A26.out) ?_; rintro e w43 ⟨v564, rfl, ho0, hb⟩; refine ⟨_, rfl, ?_⟩; replace HO553 := Aside0.mk (Kd.R_below (kR HO553) hb); replace HO559 := Aside0.mk (Kd.R_below (kR HO559) hb); have HO565 := Aside0.mk (Kd.R_lower ho0 (below_size (kB1 HB GE548))); replace BK548 := bK BK548 hb; replace HB := bS (kB1 HB GE548) hb; obtain ⟨⟨_,_,_,_,_⟩,_,_,_,_,_⟩ := bx5 BK548) | ((with_reducible refine gate_callee (f := 23) rfl ?_); refine goesL_ (some 72) rfl rfl Try.func23 (by kernel_rfl) rfl #[.agg #[.slice A0_0 l0_0.length c0_0, .slice A0_1 l0_1.length c0_1, .slice A0_2 l0_2.length c0_2, .slice A0_3 l0_3.length c0_3, .slice A0_4 l0_4.length c0_4], .slice (some ⟨go25, 0, none⟩) y562.length co39] rfl (by (try simp only [List.map_toArray, List.map_cons, List.map_nil]); first | done | (rw [show y562.length = y557.length from (Kd.R_reads' HO559.out).1.symm] <;> rfl) | rfl | (simp only [List.length_drop, List.length_take]; rfl)) ?_; (refine (w08_loads.calls _ _ l0_0 _ _ l0_1 _ _ l0_2 _ _ l0_3 _ _ l0_4 _ _ y562 t567 t570 _ (sC HR0_0 HB) HC0_0.out (sC HR0_1 HB) HC0_1.out (sC HR0_2 HB) HC0_2.out (sC HR0_3 HB) HC0_3.out (sC HR0_4 HB) HC0_4.out (kC (Kd.R_reads' HO559.out).2.2) (by rw [show y562.length = y557.length from (Kd.R_reads' HO559.out).1.symm]; exact (Kd.R_reads' HO559.out).2.1) A27.out).mono ?_); rintro e w45 ⟨v568, rfl, ho0, hb⟩; refine ⟨_, rfl, ?_⟩; replace HO553 := Aside0.mk (Kd.R_below (kR HO553) hb); replace HO559 := Aside0.mk (Kd.R_below (kR HO559) hb); have HO569 := Aside0.mk (Kd.R_lower (Kd.R_new' ho0 (Kd.R_lt (kR HO565))) (below_size (kB1 HB GE548))); replace HO565 := Aside0.mk (Kd.R_elder' (kR HO565) (Kd.R_base ho0) hb); replace BK548 := bK BK548 hb; replace HB := bS (kB1 HB GE548) hb))
   replace HO553 := Aside0.mk (Kd.R_drew HO553.out)
   replace HO559 := Aside0.mk (Kd.R_drew HO559.out)
   replace HO565 := Aside0.mk (Kd.R_drew HO565.out)
   replace HO569 := Aside0.mk (Kd.R_drew HO569.out)
   replace BK548 := Aside0.mk (blk_drew BK548.out)
   replace HB := Aside0.mk (below_drew1 HB.out)
   refine start_ (n := 10) (S := fun w' => w'.cell? ⟨gb548, 0, none⟩ = some (.slice A0_0 l0_0.length c0_0) ∧ w'.cell? ⟨gb548, 1, none⟩ = some (.slice A0_1 l0_1.length c0_1) ∧ w'.cell? ⟨gb548, 2, none⟩ = some (.slice A0_2 l0_2.length c0_2) ∧ w'.cell? ⟨gb548, 3, none⟩ = some (.slice A0_3 l0_3.length c0_3) ∧ w'.cell? ⟨gb548, 4, none⟩ = some (.slice A0_4 l0_4.length c0_4)) (ds := []) #[false, false, false, false, false, false, false, false, false, false] (by kernel_rfl) rfl rfl ⟨(blk_cell BK548.out 0).trans rfl, (blk_cell BK548.out 1).trans rfl, (blk_cell BK548.out 2).trans rfl, (blk_cell BK548.out 3).trans rfl, (blk_cell BK548.out 4).trans rfl⟩ (fun hHeld => ?_); refine with_tabW w08_TreeOne.tab11 w08_TreeOne.bits11 (fun HT_ HW_ => ?_)
   generalize w45.drew = w46 at HO553 HO559 HO565 HO569 BK548 HB hHeld ⊢
   refine pS 1 (some 77) HT_ ?_
   refine pS 2 (some 78) HT_ ?_
   refine tS 0 (some 76) HT_ HW_ hHeld ?_
   refine oS 3 (some 79) HT_ (fun K hK => ?_)
   refine Kd.R_make_step (Kd.int .i64) _ 3 (by rfl) (N := 79) rfl 29 _ _ rfl (t551.length : Int) rfl rfl Try.underlying29 (.int .i64 0) 8 info3 rfl (by decide) (by omega) 0 (ok := fun _ => True) (okp := fun _ => True) rfl (fun _ hk => hk) trivial (tD) (Nat.le_trans (Nat.mul_le_mul_right _ (tD : (t551.length : Int).toNat ≤ 35184372088832)) (by omega)) (Below.refl _ _) (Nat.le_refl _) ?_
   intro v572 w47 ho48 hb hg_ hnew_
   clear hg_ hnew_
   (first | rw [← Ny571.out] at ho48 | (simp only [Int.reduceToNat] at ho48; rw [← Ny571.out] at ho48))
   replace HO565 := Aside0.mk (Kd.R_below (kR HO565) hb)
   replace HO569 := Aside0.mk (Kd.R_below (kR HO569) hb)
   have HO573 := Aside0.mk (Kd.R_lower (Kd.R_new' (Kd.R_new' ho48 (Kd.R_lt (kR HO553))) (Kd.R_lt (kR HO559))) (below_size (kB1 HB GE548)))
   replace HO553 := Aside0.mk (Kd.R_elder' (kR HO553) (Kd.R_base ho48) hb)
   replace HO559 := Aside0.mk (Kd.R_elder' (kR HO559) (Kd.R_base ho48) hb)
   replace BK548 := bK BK548 hb
   replace HB := bS (kB1 HB GE548) hb
   clear hb ho48
   obtain ⟨Ao49, co49, eo49⟩ := Kd.R_slice HO573.out
   (first | subst eo49 | (injection eo49 with f1_ f2_ f3_; have f4_ := f1_.symm; have f5_ := f3_.symm; clear f1_ f2_ f3_; subst f4_; subst f5_))
   refine hK.out _ _ (tH trivial) (fun hHeld => ?_)
   clear hK K
   refine norm_ (a' := ?_) ?_ ?_
   rotate_left
   ·show Act.put _ (some 79) _ = _
    simp only [Act.put, List.setIfInBounds_toArray, List.set_cons_zero, List.set_cons_succ, i64_w, i32_w]
    rfl
   refine oS 4 (some 80) HT_ (fun K hK => ?_)
   refine goes_ Try.func23 (by kernel_rfl) rfl #[.agg #[.slice A0_0 l0_0.length c0_0, .slice A0_1 l0_1.length c0_1, .slice A0_2 l0_2.length c0_2, .slice A0_3 l0_3.length c0_3, .slice A0_4 l0_4.length c0_4], .slice Ao49 y571.length co49] (by rfl) rfl rfl tL ?_
   refine (w08_loads.calls _ _ l0_0 _ _ l0_1 _ _ l0_2 _ _ l0_3 _ _ l0_4 _ _ y571 t574 t577 _ (sC HR0_0 HB) HC0_0.out (sC HR0_1 HB) HC0_1.out (sC HR0_2 HB) HC0_2.out (sC HR0_3 HB) HC0_3.out (sC HR0_4 HB) HC0_4.out (kC (Kd.R_reads' HO573.out).2.2) ((Kd.R_reads' HO573.out).2.1) A30.out).mono ?_
   rintro e w50 ⟨v575, rfl, ho0, hb⟩
   refine ⟨_, rfl, ?_⟩
   replace HO553 := Aside0.mk (Kd.R_below (kR HO553) hb)
   replace HO559 := Aside0.mk (Kd.R_below (kR HO559) hb)
   replace HO573 := Aside0.mk (Kd.R_below (kR HO573) hb)
   have HO576 := Aside0.mk (Kd.R_lower (Kd.R_new' (Kd.R_new' ho0 (Kd.R_lt (kR HO565))) (Kd.R_lt (kR HO569))) (below_size (kB1 HB GE548)))
   replace HO565 := Aside0.mk (Kd.R_elder' (kR HO565) (Kd.R_base ho0) hb)
   replace HO569 := Aside0.mk (Kd.R_elder' (kR HO569) (Kd.R_base ho0) hb)
   replace BK548 := bK BK548 hb
   replace HB := bS (kB1 HB GE548) hb
   (try clear hb)
   (try clear hb2)
   (try clear hk)
   (try clear hi)
   (try clear ho0)
   refine hK.out _ _ (tH trivial) (fun hHeld => ?_)
   clear hK K
   refine norm_ (a' := ?_) ?_ ?_
   rotate_left
   ·show Act.put _ (some 80) _ = _
    simp only [Act.put, List.setIfInBounds_toArray, List.set_cons_zero, List.set_cons_succ, i64_w, i32_w]
    rfl
   refine pS 5 (some 75) HT_ ?_
   refine pS 6 (some 81) HT_ ?_
   refine pS 7 (some 82) HT_ ?_
   refine pS 8 (some 18) HT_ ?_
   refine pS 9 (some 19) HT_ ?_
   refine done_ (done_of HT_.out (by kernel_rfl)) ?_
   obtain ⟨⟨_,_,_,_,_⟩,_,_,_,_,_⟩ := bx5 BK548
   go_upto_region 13 with (first | ((with_reducible refine gate_callee (f := 12) rfl ?_); refine goesL_ (some 86) rfl rfl Try.func12 (by kernel_rfl) rfl #[.agg #[.slice A0_0 l0_0.length c0_0, .slice A0_1 l0_1.length c0_1, .slice A0_2 l0_2.length c0_2, .slice A0_3 l0_3.length c0_3, .slice A0_4 l0_4.length c0_4], .int .i64 ji20] rfl (by (try simp only [List.map_toArray, List.map_cons, List.map_nil]); first | done | (simp only [hji20]; rfl) | rfl | (simp only [List.length_drop, List.length_take]; rfl)) ?_; (refine (tree_Path.calls _ _ l0_0 _ _ l0_1 _ _ l0_2 _ _ l0_3 _ _ l0_4 ji20 t578 t581 _ (sC HR0_0 HB) HC0_0.out (sC HR0_1 HB) HC0_1.out (sC HR0_2 HB) HC0_2.out (sC HR0_3 HB) HC0_3.out (sC HR0_4 HB) HC0_4.out A31.out).mono ?_); rintro e w52 ⟨v579, rfl, ho0, hb⟩; refine ⟨_, rfl, ?_⟩; replace HO565 := Aside0.mk (Kd.R_below (kR HO565) hb); replace HO569 := Aside0.mk (Kd.R_below (kR HO569) hb); replace HO576 := Aside0.mk (Kd.R_below (kR HO576) hb); have HO580 := Aside0.mk (Kd.R_lower (Kd.R_new' (Kd.R_new' (Kd.R_new' ho0 (Kd.R_lt (kR HO553))) (Kd.R_lt (kR HO559))) (Kd.R_lt (kR HO573))) (below_size (kB1 HB GE548))); replace HO553 := Aside0.mk (Kd.R_elder' (kR HO553) (Kd.R_base ho0) hb); replace HO559 := Aside0.mk (Kd.R_elder' (kR HO559) (Kd.R_base ho0) hb); replace HO573 := Aside0.mk (Kd.R_elder' (kR HO573) (Kd.R_base ho0) hb); replace BK548 := bK BK548 hb; replace HB := bS (kB1 HB GE548) hb))
   (try simp only [Act.put, List.setIfInBounds_toArray, List.set_cons_zero, List.set_cons_succ])
   go_cut [102] (fun v102 wc => ∃ (kq : Nat) (x102_31 : Bool), v102 = .bool x102_31 ∧ Aside0 (w08_TreeOne.j1 kq t549 ji20 (Int.tmod (wrap64 (a3)) (wrap64 (81 - (rd t551 (ji20))))) t563 t567 t574 t578 x102_31 l0_0 l0_1 l0_2 l0_3 l0_4 = some r) ∧ Aside0 (kq ≤ kj5) ∧ Aside0 (Kd.R k55 55 wc w.heap.size (fun k_ => some k_ ≠ (v568 : Value).ownBlock ∧ some k_ ≠ (v575 : Value).ownBlock) v564 t563) ∧ Aside0 (Kd.R k55 55 wc w.heap.size (fun k_ => some k_ ≠ (v564 : Value).ownBlock ∧ some k_ ≠ (v575 : Value).ownBlock) v568 t567) ∧ Aside0 (Kd.R k55 55 wc w.heap.size (fun k_ => some k_ ≠ (v564 : Value).ownBlock ∧ some k_ ≠ (v568 : Value).ownBlock) v575 t574) ∧ Aside0 (Kd.R (Kd.int .i64) 3 wc w.heap.size (fun _ => True) v579 t578) ∧ Aside0 (wc.heap[gb548]? = some (.cells #[(.slice A0_0 l0_0.length c0_0), (.slice A0_1 l0_1.length c0_1), (.slice A0_2 l0_2.length c0_2), (.slice A0_3 l0_3.length c0_3), (.slice A0_4 l0_4.length c0_4)] 28 (0, 0))) ∧ Aside0 (Below w.heap.size w wc))
   case first =>
    have H := HC32.out
    clear HC32
    by_cases c53 : t566 = true
    rotate_left
    ·replace c53 := Bool.eq_false_iff.mpr c53
     subst c53
     replace H := ifF H
     have H' := Aside0.mk H
     clear H
     go_wp2
     go_meet
     case rel => exact ⟨_, (true), tQ, H', ⟨by have := HJ5.out; first | omega | exact Nat.le_refl _⟩, ⟨by (with_reducible repeat (first | apply Kd.R_alloc | apply Kd.R_drewN | apply Kd.R_drew)); exact Kd.R_mono HO565.out (fun _ hk => ⟨hk.1.2, hk.2⟩)⟩, ⟨by (with_reducible repeat (first | apply Kd.R_alloc | apply Kd.R_drewN | apply Kd.R_drew)); exact Kd.R_mono HO569.out (fun _ hk => ⟨hk.1.2, hk.2⟩)⟩, ⟨by (with_reducible repeat (first | apply Kd.R_alloc | apply Kd.R_drewN | apply Kd.R_drew)); exact Kd.R_mono HO576.out (fun _ hk => ⟨hk.1.2, hk.2⟩)⟩, ⟨by (with_reducible repeat (first | apply Kd.R_alloc | apply Kd.R_drewN | apply Kd.R_drew)); exact Kd.R_mono HO580.out (fun _ hk => trivial)⟩, ⟨kK BK548⟩, ⟨kB1 HB GE548⟩⟩
    subst c53
    replace H := ifT H
    by_cases c54 : t570 = true
    rotate_left
    ·replace c54 := Bool.eq_false_iff.mpr c54
     subst c54
     replace H := ifF H
     have H' := Aside0.mk H
     clear H
     go_wp2
     go_meet
     case rel => exact ⟨_, (true), tQ, H', ⟨by have := HJ5.out; first | omega | exact Nat.le_refl _⟩, ⟨by (with_reducible repeat (first | apply Kd.R_alloc | apply Kd.R_drewN | apply Kd.R_drew)); exact Kd.R_mono HO565.out (fun _ hk => ⟨hk.1.2, hk.2⟩)⟩, ⟨by (with_reducible repeat (first | apply Kd.R_alloc | apply Kd.R_drewN | apply Kd.R_drew)); exact Kd.R_mono HO569.out (fun _ hk => ⟨hk.1.2, hk.2⟩)⟩, ⟨by (with_reducible repeat (first | apply Kd.R_alloc | apply Kd.R_drewN | apply Kd.R_drew)); exact Kd.R_mono HO576.out (fun _ hk => ⟨hk.1.2, hk.2⟩)⟩, ⟨by (with_reducible repeat (first | apply Kd.R_alloc | apply Kd.R_drewN | apply Kd.R_drew)); exact Kd.R_mono HO580.out (fun _ hk => trivial)⟩, ⟨kK BK548⟩, ⟨kB1 HB GE548⟩⟩
    subst c54
    replace H := ifT H
    by_cases c55 : t577 = true
    ·subst c55
     replace H := ifT H
     have H' := Aside0.mk H
     clear H
     go_wp2
     go_meet
     case rel => exact ⟨_, ((t581 != 0)), tQ, H', ⟨by have := HJ5.out; first | omega | exact Nat.le_refl _⟩, ⟨by (with_reducible repeat (first | apply Kd.R_alloc | apply Kd.R_drewN | apply Kd.R_drew)); exact Kd.R_mono HO565.out (fun _ hk => ⟨hk.1.2, hk.2⟩)⟩, ⟨by (with_reducible repeat (first | apply Kd.R_alloc | apply Kd.R_drewN | apply Kd.R_drew)); exact Kd.R_mono HO569.out (fun _ hk => ⟨hk.1.2, hk.2⟩)⟩, ⟨by (with_reducible repeat (first | apply Kd.R_alloc | apply Kd.R_drewN | apply Kd.R_drew)); exact Kd.R_mono HO576.out (fun _ hk => ⟨hk.1.2, hk.2⟩)⟩, ⟨by (with_reducible repeat (first | apply Kd.R_alloc | apply Kd.R_drewN | apply Kd.R_drew)); exact Kd.R_mono HO580.out (fun _ hk => trivial)⟩, ⟨kK BK548⟩, ⟨kB1 HB GE548⟩⟩
    replace c55 := Bool.eq_false_iff.mpr c55
    subst c55
    replace H := ifF H
    have H' := Aside0.mk H
    clear H
    go_wp2
    go_meet
    case rel => exact ⟨_, (true), tQ, H', ⟨by have := HJ5.out; first | omega | exact Nat.le_refl _⟩, ⟨by (with_reducible repeat (first | apply Kd.R_alloc | apply Kd.R_drewN | apply Kd.R_drew)); exact Kd.R_mono HO565.out (fun _ hk => ⟨hk.1.2, hk.2⟩)⟩, ⟨by (with_reducible repeat (first | apply Kd.R_alloc | apply Kd.R_drewN | apply Kd.R_drew)); exact Kd.R_mono HO569.out (fun _ hk => ⟨hk.1.2, hk.2⟩)⟩, ⟨by (with_reducible repeat (first | apply Kd.R_alloc | apply Kd.R_drewN | apply Kd.R_drew)); exact Kd.R_mono HO576.out (fun _ hk => ⟨hk.1.2, hk.2⟩)⟩, ⟨by (with_reducible repeat (first | apply Kd.R_alloc | apply Kd.R_drewN | apply Kd.R_drew)); exact Kd.R_mono HO580.out (fun _ hk => trivial)⟩, ⟨kK BK548⟩, ⟨kB1 HB GE548⟩⟩
   case rest =>
    clear HC32
    obtain ⟨kq, x102_31, rfl, HA, HJ31, HO_14, HO_16, HO_18, HO_20, BK548, HB⟩ := hcut
    cases kq with
    | zero => exact absurd HA.out (by simp [w08_TreeOne.j1])
    | succ kj31 =>
     have H := HA.out
     clear HA
     simp only [w08_TreeOne.j1] at H
     by_cases c56 : x102_31 = true
     ·subst c56
      replace H := ifT H
      obtain rfl := Option.some.inj H
      go_wp2
      go_ret
      exact ⟨by first | rfl | (simp [errW_none, errW_some] <;> rfl) | (simp only [← hji20]; first | rfl | (simp [errW_none, errW_some] <;> rfl)) | (simp [*, errW_none, errW_some] <;> rfl), kB1 HB GE548⟩
     replace c56 := Bool.eq_false_iff.mpr c56
     subst c56
     replace H := ifF H
     have H' := Aside0.mk H
     clear H
     obtain ⟨Ao57, co57, eo57⟩ := Kd.R_slice HO_14.out
     subst eo57
     go_wp2
     go_loopg [105] kj31 (fun kq v105 w' => ∃ (x105_3 : Int), v105 = .int .i64 x105_3 ∧ Aside0 (w08_TreeOne.l0 kq t549 ji20 (Int.tmod (wrap64 (a3)) (wrap64 (81 - (rd t551 (ji20))))) t563 t567 t574 t578 (t563.length : Int) x105_3 l0_0 l0_1 l0_2 l0_3 l0_4 = some r) ∧ Aside0 (kq ≤ kj31) ∧ Aside0 (Kd.R k55 55 w' w.heap.size (fun k_ => some k_ ≠ (v568 : Value).ownBlock ∧ some k_ ≠ (v575 : Value).ownBlock) (.slice Ao57 t563.length co57) t563) ∧ Aside0 (Kd.R k55 55 w' w.heap.size (fun k_ => some k_ ≠ ((.slice Ao57 t563.length co57) : Value).ownBlock ∧ some k_ ≠ (v575 : Value).ownBlock) v568 t567) ∧ Aside0 (Kd.R k55 55 w' w.heap.size (fun k_ => some k_ ≠ ((.slice Ao57 t563.length co57) : Value).ownBlock ∧ some k_ ≠ (v568 : Value).ownBlock) v575 t574) ∧ Aside0 (Kd.R (Kd.int .i64) 3 w' w.heap.size (fun _ => True) v579 t578) ∧ Aside0 (w'.heap[gb548]? = some (.cells #[(.slice A0_0 l0_0.length c0_0), (.slice A0_1 l0_1.length c0_1), (.slice A0_2 l0_2.length c0_2), (.slice A0_3 l0_3.length c0_3), (.slice A0_4 l0_4.length c0_4)] 28 (0, 0))) ∧ Aside0 (Below w.heap.size w w'))
     case atStart => exact ⟨(0), tQ, H', ⟨Nat.le_refl _⟩, ⟨kR HO_14⟩, ⟨kR HO_16⟩, ⟨kR HO_18⟩, ⟨kR HO_20⟩, ⟨kK BK548⟩, ⟨kB1 HB GE548⟩⟩
     case round =>
      clear H'
      obtain ⟨x105_3, rfl, HA, HK3, HO_14, HO_16, HO_18, HO_20, BK548, HB⟩ := hrel
      cases gk with
      | zero => exact absurd HA.out (by simp [w08_TreeOne.l0])
      | succ k3 =>
       have H := HA.out
       clear HA
       simp only [w08_TreeOne.l0] at H
       by_cases c58 : x105_3 < (t563.length : Int)
       rotate_left
       ·rw [if_neg c58] at H
        have c58b0 : decide (x105_3 < (t563.length : Int)) = false := decide_eq_false c58
        clear c58
        obtain rfl := Option.some.inj H
        go_wp2
        go_ret
        exact ⟨by first | rfl | (simp [errW_none, errW_some] <;> rfl) | (simp only [← hji20]; first | rfl | (simp [errW_none, errW_some] <;> rfl)) | (simp [*, errW_none, errW_some] <;> rfl), kB1 HB GE548⟩
       rw [if_pos c58] at H
       have c58b0 : decide (x105_3 < (t563.length : Int)) = true := decide_eq_true c58
       clear c58
       have H' := Aside0.mk H
       clear H
       go_wp2
       go_loopg [108] k3 (fun kq v108 w' => ∃ (x108_4 : Int), v108 = .int .i64 x108_4 ∧ Aside0 (w08_TreeOne.l1 kq t549 ji20 (Int.tmod (wrap64 (a3)) (wrap64 (81 - (rd t551 (ji20))))) t563 t567 t574 t578 x105_3 (t563.length : Int) x105_3 x108_4 l0_0 l0_1 l0_2 l0_3 l0_4 = some r) ∧ Aside0 (kq ≤ k3) ∧ Aside0 (Kd.R k55 55 w' w.heap.size (fun k_ => some k_ ≠ (v568 : Value).ownBlock ∧ some k_ ≠ (v575 : Value).ownBlock) (.slice Ao57 t563.length co57) t563) ∧ Aside0 (Kd.R k55 55 w' w.heap.size (fun k_ => some k_ ≠ ((.slice Ao57 t563.length co57) : Value).ownBlock ∧ some k_ ≠ (v575 : Value).ownBlock) v568 t567) ∧ Aside0 (Kd.R k55 55 w' w.heap.size (fun k_ => some k_ ≠ ((.slice Ao57 t563.length co57) : Value).ownBlock ∧ some k_ ≠ (v568 : Value).ownBlock) v575 t574) ∧ Aside0 (Kd.R (Kd.int .i64) 3 w' w.heap.size (fun _ => True) v579 t578) ∧ Aside0 (w'.heap[gb548]? = some (.cells #[(.slice A0_0 l0_0.length c0_0), (.slice A0_1 l0_1.length c0_1), (.slice A0_2 l0_2.length c0_2), (.slice A0_3 l0_3.length c0_3), (.slice A0_4 l0_4.length c0_4)] 28 (0, 0))) ∧ Aside0 (Below w.heap.size w w'))
       case atStart => exact ⟨(0), tQ, H', ⟨Nat.le_refl _⟩, ⟨kR HO_14⟩, ⟨kR HO_16⟩, ⟨kR HO_18⟩, ⟨kR HO_20⟩, ⟨kK BK548⟩, ⟨kB1 HB GE548⟩⟩
       case round =>
        clear H'
        obtain ⟨x108_4, rfl, HA, HK4, HO_14, HO_16, HO_18, HO_20, BK548, HB⟩ := hrel
        cases gk with
        | zero => exact absurd HA.out (by simp [w08_TreeOne.l1])
        | succ k4 =>
         have H := HA.out
         clear HA
         simp only [w08_TreeOne.l1] at H
         by_cases c59 : x108_4 < 3
         rotate_left
         ·rw [if_neg c59] at H
          have c59b0 : decide (x108_4 < 3) = false := decide_eq_false c59
          clear c59
          have H' := Aside0.mk H
          clear H
          go_wp2
          go_roundg k4
          case measure => have := HJ5.out; have := HJ31.out; have := HK3.out; have := HK4.out; omega
          case rel => exact ⟨(wrap64 (x105_3 + 1)), tQ, H', ⟨kO4 HJ5 HJ31 HK3 HK4⟩, ⟨kR HO_14⟩, ⟨kR HO_16⟩, ⟨kR HO_18⟩, ⟨kR HO_20⟩, ⟨kK BK548⟩, ⟨kB1 HB GE548⟩⟩
         rw [if_pos c59] at H
         have c59b0 : decide (x108_4 < 3) = true := decide_eq_true c59
         clear c59
         have HC60 := Aside0.mk H
         clear H
         go_upto_block 3 with (fail)
         go_cut [] (fun wc => ∃ (kq : Nat), Aside0 (w08_TreeOne.j13 kq t549 ji20 (Int.tmod (wrap64 (a3)) (wrap64 (81 - (rd t551 (ji20))))) t563 t567 t574 t578 x105_3 (t563.length : Int) x105_3 x108_4 l0_0 l0_1 l0_2 l0_3 l0_4 = some r) ∧ Aside0 (kq ≤ k4) ∧ Aside0 (Kd.R k55 55 wc w.heap.size (fun k_ => some k_ ≠ (v568 : Value).ownBlock ∧ some k_ ≠ (v575 : Value).ownBlock) (.slice Ao57 t563.length co57) t563) ∧ Aside0 (Kd.R k55 55 wc w.heap.size (fun k_ => some k_ ≠ ((.slice Ao57 t563.length co57) : Value).ownBlock ∧ some k_ ≠ (v575 : Value).ownBlock) v568 t567) ∧ Aside0 (Kd.R k55 55 wc w.heap.size (fun k_ => some k_ ≠ ((.slice Ao57 t563.length co57) : Value).ownBlock ∧ some k_ ≠ (v568 : Value).ownBlock) v575 t574) ∧ Aside0 (Kd.R (Kd.int .i64) 3 wc w.heap.size (fun _ => True) v579 t578) ∧ Aside0 (wc.heap[gb548]? = some (.cells #[(.slice A0_0 l0_0.length c0_0), (.slice A0_1 l0_1.length c0_1), (.slice A0_2 l0_2.length c0_2), (.slice A0_3 l0_3.length c0_3), (.slice A0_4 l0_4.length c0_4)] 28 (0, 0))) ∧ Aside0 (Below w.heap.size w wc))
         case first =>
          have H := HC60.out
          clear HC60
          by_cases c61 : 0 ≤ x105_3
          rotate_left
          ·rw [if_neg c61] at H
           exact absurd H (by simp)
          rw [if_pos c61] at H
          have c61b0 : decide (0 ≤ x105_3) = true := decide_eq_true c61
          clear c61
          (first | rw [c61b0] | (simp only [i64_w, i32_w]; rw [c61b0]) | skip)
          by_cases c62 : x105_3 < (t563.length : Int)
          rotate_left
          ·rw [if_neg c62] at H
           exact absurd H (by simp)
          rw [if_pos c62] at H
          have c62b0 : decide (x105_3 < (t563.length : Int)) = true := decide_eq_true c62
          clear c62
          by_cases c63 : x108_4 = 0
          ·rw [if_pos c63] at H
           have c63b0 : (x108_4 == 0) = true := beq_iff_eq.mpr c63
           have c63b1 : (x108_4 != 0) = false := bne_eq_false_iff_eq.mpr c63
           have c63b2 : ∀ (a_ : Addr) (W_ : World), (Instr.indexAt 55 (.pointer (some a_)) (.int .i64 x108_4)).run Try.prog W_ = .ok (.pointer (some (a_.add 0))) W_ := fun a_ W_ => ix_arr Try.underlying55 (fun W_ => by go_simp) 0 (by decide) x108_4 c63 a_ W_
           clear c63
           have HC64 := Aside0.mk H
           clear H
           have p582 : 0 ≤ (x105_3 : Int) := tD
           have q582 : x105_3 < (t563.length : Int) := tD
           obtain ⟨ad582, e582, hx582_0, hx582_1, hx582_2⟩ := at_T55 (Kd.R_reads' HO_14.out).2.2 x105_3 p582 q582
           cases e582
           replace p582 := eq_true p582
           replace q582 := eq_true q582
           go_upto_region 22 with (fail)
           go_cut [131] (fun v131 wc => ∃ (kq : Nat) (x131_63 : Bool), v131 = .bool x131_63 ∧ Aside0 (w08_TreeOne.j4 kq t549 ji20 (Int.tmod (wrap64 (a3)) (wrap64 (81 - (rd t551 (ji20))))) t563 t567 t574 t578 x105_3 x108_4 ((rd_T55 t563 x105_3).f0) (t563.length : Int) x105_3 x108_4 x131_63 l0_0 l0_1 l0_2 l0_3 l0_4 = some r) ∧ Aside0 (kq ≤ k4) ∧ Aside0 (Kd.R k55 55 wc w.heap.size (fun k_ => some k_ ≠ (v568 : Value).ownBlock ∧ some k_ ≠ (v575 : Value).ownBlock) (.slice (some ad582) t563.length co57) t563) ∧ Aside0 (Kd.R k55 55 wc w.heap.size (fun k_ => some k_ ≠ ((.slice (some ad582) t563.length co57) : Value).ownBlock ∧ some k_ ≠ (v575 : Value).ownBlock) v568 t567) ∧ Aside0 (Kd.R k55 55 wc w.heap.size (fun k_ => some k_ ≠ ((.slice (some ad582) t563.length co57) : Value).ownBlock ∧ some k_ ≠ (v568 : Value).ownBlock) v575 t574) ∧ Aside0 (Kd.R (Kd.int .i64) 3 wc w.heap.size (fun _ => True) v579 t578) ∧ Aside0 (wc.heap[gb548]? = some (.cells #[(.slice A0_0 l0_0.length c0_0), (.slice A0_1 l0_1.length c0_1), (.slice A0_2 l0_2.length c0_2), (.slice A0_3 l0_3.length c0_3), (.slice A0_4 l0_4.length c0_4)] 28 (0, 0))) ∧ Aside0 (Below w.heap.size w wc))
           case first =>
            have H := HC64.out
            clear HC64
            obtain ⟨t583, A65, H⟩ := bnd H
            by_cases c66 : t583 = true
            rotate_left
            ·replace c66 := Bool.eq_false_iff.mpr c66
             subst c66
             replace H := ifF H
             have H' := Aside0.mk H
             clear H
             obtain ⟨Ao73, co73, eo73⟩ := Kd.R_slice HO_20.out
             subst eo73
             go_wp2_with (first | ((with_reducible refine gate_callee (f := 21) rfl ?_); refine gL (some 119) Try.func21 #[.slice Ao73 t578.length co73, .int .i64 x105_3] (w08_in.calls k4 _ _ t578 x105_3 false _ (kC (Kd.R_reads' HO_20.out).2.2) ((Kd.R_reads' HO_20.out).2.1) A65.out) ?_; rintro e w' ⟨rfl, ⟨nd, rfl⟩⟩; refine ⟨_, rfl, ?_⟩))
             go_meet
             case rel => exact ⟨_, (false), tQ, H', ⟨by have := HJ5.out; have := HJ31.out; have := HK3.out; have := HK4.out; first | omega | exact Nat.le_refl _⟩, ⟨kR HO_14⟩, ⟨kR HO_16⟩, ⟨kR HO_18⟩, ⟨kR HO_20⟩, ⟨kK BK548⟩, ⟨kB1 HB GE548⟩⟩
            subst c66
            replace H := ifT H
            by_cases c67 : 0 ≤ ji20
            rotate_left
            ·rw [if_neg c67] at H
             exact absurd H (by simp)
            rw [if_pos c67] at H
            have c67b0 : decide (0 ≤ ji20) = true := decide_eq_true c67
            clear c67
            (first | rw [c67b0] | (simp only [i64_w, i32_w]; rw [c67b0]) | skip)
            by_cases c68 : ji20 < (l0_3.length : Int)
            rotate_left
            ·rw [if_neg c68] at H
             exact absurd H (by simp)
            rw [if_pos c68] at H
            have c68b0 : decide (ji20 < (l0_3.length : Int)) = true := decide_eq_true c68
            clear c68
            by_cases c69 : 0 ≤ x108_4
            rotate_left
            ·rw [if_neg c69] at H
             exact absurd H (by simp)
            rw [if_pos c69] at H
            have c69b0 := eq_true c69
            have c69b1 : decide (0 ≤ x108_4) = true := decide_eq_true c69
            clear c69
            obtain ⟨ji70, hji70⟩ : ∃ j_ : Int, (shr .i64 ((rd_T42 l0_3 ji20).f2) x108_4) = j_ := ⟨_, rfl⟩
            replace H : (w08_TreeOne.j4 k4 t549 ji20 (Int.tmod (wrap64 (a3)) (wrap64 (81 - (rd t551 (ji20))))) t563 t567 t574 t578 x105_3 x108_4 ((rd_T55 t563 x105_3).f0) (t563.length : Int) x105_3 x108_4 ((Go.bits .and .i64 (ji70) 1) == 1) l0_0 l0_1 l0_2 l0_3 l0_4) = some r := by first | (rw [hji70] at H; exact H) | (simp only [hji70] at H ⊢; exact H)
            (try rw [hji70] at A65)
            have hji70_ : (((rd_T42 l0_3 ji20).f2) / 2 ^ min x108_4.toNat 64) = ji70 := hji70
            have hji70z : x108_4 ≤ 64 → (((rd_T42 l0_3 ji20).f2) / 2 ^ x108_4.toNat) = ji70 := shr_small hji70
            (try (have hji70w := hji70z (by have h_ := of_decide_eq_true c59b0; omega)))
            have H' := Aside0.mk H
            clear H
            obtain ⟨Ao71, co71, eo71⟩ := Kd.R_slice HO_20.out
            subst eo71
            go_wp2_with (first | ((with_reducible refine gate_callee (f := 21) rfl ?_); refine gL (some 119) Try.func21 #[.slice Ao71 t578.length co71, .int .i64 x105_3] (w08_in.calls k4 _ _ t578 x105_3 true _ (kC (Kd.R_reads' HO_20.out).2.2) ((Kd.R_reads' HO_20.out).2.1) A65.out) ?_; rintro e w' ⟨rfl, ⟨nd, rfl⟩⟩; refine ⟨_, rfl, ?_⟩; obtain ⟨⟨_,_,_,_,_⟩,_,_,_,_,_⟩ := bx5 BK548; have p584 : 0 ≤ (ji20 : Int) := tD; have q584 : ji20 < (l0_3.length : Int) := tD; obtain ⟨ad584, e584, hx584_0, hx584_1, hx584_2, hx584_3, hx584_4, hx584_5, hx584_6, hx584_7⟩ := at_T42 HR0_3.out ji20 p584 q584; cases e584; replace hx584_0 := cB HB hx584_0; replace hx584_1 := cB HB hx584_1; replace hx584_2 := cB HB hx584_2; replace hx584_3 := cB HB hx584_3; replace hx584_4 := cB HB hx584_4; replace hx584_5 := cB HB hx584_5; replace hx584_6 := cB HB hx584_6; replace hx584_7 := cB HB hx584_7; replace p584 := eq_true p584; replace q584 := eq_true q584))
            (try simp only [← hji70])
            go_meet
            case rel => exact ⟨_, (((Go.bits .and .i64 (ji70) 1) == 1)), (by first | rfl | (simp; done) | (simp only [← hji70] <;> (first | rfl | simp)) | (simp [*]; done)), H', ⟨by have := HJ5.out; have := HJ31.out; have := HK3.out; have := HK4.out; first | omega | exact Nat.le_refl _⟩, ⟨kR HO_14⟩, ⟨kR HO_16⟩, ⟨kR HO_18⟩, ⟨kR HO_20⟩, ⟨kK BK548⟩, ⟨kB1 HB GE548⟩⟩
           case rest =>
            clear HC64
            obtain ⟨kq, x131_63, rfl, HA, HJ63, HO_14, HO_16, HO_18, HO_20, BK548, HB⟩ := hcut
            cases kq with
            | zero => exact absurd HA.out (by simp [w08_TreeOne.j4])
            | succ kj63 =>
             have H := HA.out
             clear HA
             simp only [w08_TreeOne.j4] at H
             have HC74 := Aside0.mk H
             clear H
             go_upto_if 131 with (fail)
             go_cut [24] (fun v24 wc => ∃ (kq : Nat) (x24_73 : Int), v24 = .int .i64 x24_73 ∧ Aside0 (w08_TreeOne.j5 kq t549 ji20 (Int.tmod (wrap64 (a3)) (wrap64 (81 - (rd t551 (ji20))))) t563 t567 t574 t578 x105_3 x108_4 x24_73 (t563.length : Int) x105_3 x108_4 l0_0 l0_1 l0_2 l0_3 l0_4 = some r) ∧ Aside0 (kq ≤ kj63) ∧ Aside0 (Kd.R k55 55 wc w.heap.size (fun k_ => some k_ ≠ (v568 : Value).ownBlock ∧ some k_ ≠ (v575 : Value).ownBlock) (.slice (some ad582) t563.length co57) t563) ∧ Aside0 (Kd.R k55 55 wc w.heap.size (fun k_ => some k_ ≠ ((.slice (some ad582) t563.length co57) : Value).ownBlock ∧ some k_ ≠ (v575 : Value).ownBlock) v568 t567) ∧ Aside0 (Kd.R k55 55 wc w.heap.size (fun k_ => some k_ ≠ ((.slice (some ad582) t563.length co57) : Value).ownBlock ∧ some k_ ≠ (v568 : Value).ownBlock) v575 t574) ∧ Aside0 (Kd.R (Kd.int .i64) 3 wc w.heap.size (fun _ => True) v579 t578) ∧ Aside0 (wc.heap[gb548]? = some (.cells #[(.slice A0_0 l0_0.length c0_0), (.slice A0_1 l0_1.length c0_1), (.slice A0_2 l0_2.length c0_2), (.slice A0_3 l0_3.length c0_3), (.slice A0_4 l0_4.length c0_4)] 28 (0, 0))) ∧ Aside0 (Below w.heap.size w wc))
             case first =>
              have H := HC74.out
              clear HC74
              by_cases c75 : x131_63 = true
              rotate_left
              ·replace c75 := Bool.eq_false_iff.mpr c75
               subst c75
               replace H := ifF H
               have H' := Aside0.mk H
               clear H
               go_wp2
               go_meet
               case rel => exact ⟨_, (((rd_T55 t563 x105_3).f0)), tQ, H', ⟨by have := HJ5.out; have := HJ31.out; have := HK3.out; have := HK4.out; have := HJ63.out; first | omega | exact Nat.le_refl _⟩, ⟨kR HO_14⟩, ⟨kR HO_16⟩, ⟨kR HO_18⟩, ⟨kR HO_20⟩, ⟨kK BK548⟩, ⟨kB1 HB GE548⟩⟩
              subst c75
              replace H := ifT H
              have H' := Aside0.mk H
              clear H
              go_wp2
              go_meet
              case rel => exact ⟨_, (wrap64 (((rd_T55 t563 x105_3).f0) + (Int.tmod (wrap64 (a3)) (wrap64 (81 - (rd t551 (ji20))))))), (by first | rfl | (simp; done) | (simp only [← hji20] <;> (first | rfl | simp)) | (simp [*]; done)), H', ⟨by have := HJ5.out; have := HJ31.out; have := HK3.out; have := HK4.out; have := HJ63.out; first | omega | exact Nat.le_refl _⟩, ⟨kR HO_14⟩, ⟨kR HO_16⟩, ⟨kR HO_18⟩, ⟨kR HO_20⟩, ⟨kK BK548⟩, ⟨kB1 HB GE548⟩⟩
             case rest =>
              clear HC74
              obtain ⟨kq, x24_73, rfl, HA, HJ73, HO_14, HO_16, HO_18, HO_20, BK548, HB⟩ := hcut
              cases kq with
              | zero => exact absurd HA.out (by simp [w08_TreeOne.j5])
              | succ kj73 =>
               have H := HA.out
               clear HA
               simp only [w08_TreeOne.j5] at H
               have HC76 := Aside0.mk H
               clear H
               go_upto_region 24 with (fail)
               go_cut [151] (fun v151 wc => ∃ (kq : Nat) (x151_75 : Bool), v151 = .bool x151_75 ∧ Aside0 (w08_TreeOne.j6 kq t549 ji20 (Int.tmod (wrap64 (a3)) (wrap64 (81 - (rd t551 (ji20))))) t563 t567 t574 t578 x105_3 (t563.length : Int) x105_3 x108_4 x151_75 l0_0 l0_1 l0_2 l0_3 l0_4 = some r) ∧ Aside0 (kq ≤ kj73) ∧ Aside0 (Kd.R k55 55 wc w.heap.size (fun k_ => some k_ ≠ (v568 : Value).ownBlock ∧ some k_ ≠ (v575 : Value).ownBlock) (.slice (some ad582) t563.length co57) t563) ∧ Aside0 (Kd.R k55 55 wc w.heap.size (fun k_ => some k_ ≠ ((.slice (some ad582) t563.length co57) : Value).ownBlock ∧ some k_ ≠ (v575 : Value).ownBlock) v568 t567) ∧ Aside0 (Kd.R k55 55 wc w.heap.size (fun k_ => some k_ ≠ ((.slice (some ad582) t563.length co57) : Value).ownBlock ∧ some k_ ≠ (v568 : Value).ownBlock) v575 t574) ∧ Aside0 (Kd.R (Kd.int .i64) 3 wc w.heap.size (fun _ => True) v579 t578) ∧ Aside0 (wc.heap[gb548]? = some (.cells #[(.slice A0_0 l0_0.length c0_0), (.slice A0_1 l0_1.length c0_1), (.slice A0_2 l0_2.length c0_2), (.slice A0_3 l0_3.length c0_3), (.slice A0_4 l0_4.length c0_4)] 28 (0, 0))) ∧ Aside0 (Below w.heap.size w wc))
               case first =>
                have H := HC76.out
                clear HC76
                by_cases c77 : 0 ≤ x105_3
                rotate_left
                ·rw [if_neg c77] at H
                 exact absurd H (by simp)
                rw [if_pos c77] at H
                have c77b0 : decide (0 ≤ x105_3) = true := decide_eq_true c77
                clear c77
                (first | rw [c77b0] | (simp only [i64_w, i32_w]; rw [c77b0]) | skip)
                by_cases c78 : x105_3 < (t567.length : Int)
                rotate_left
                ·rw [if_neg c78] at H
                 exact absurd H (by simp)
                rw [if_pos c78] at H
                have c78b0 : decide (x105_3 < (t567.length : Int)) = true := decide_eq_true c78
                clear c78
                by_cases c79 : x108_4 = 0
                ·rw [if_pos c79] at H
                 have c79b0 : (x108_4 == 0) = true := beq_iff_eq.mpr c79
                 have c79b1 : (x108_4 != 0) = false := bne_eq_false_iff_eq.mpr c79
                 have c79b2 : ∀ (a_ : Addr) (W_ : World), (Instr.indexAt 55 (.pointer (some a_)) (.int .i64 x108_4)).run Try.prog W_ = .ok (.pointer (some (a_.add 0))) W_ := fun a_ W_ => ix_arr Try.underlying55 (fun W_ => by go_simp) 0 (by decide) x108_4 c79 a_ W_
                 clear c79
                 by_cases c80 : ((rd_T55 t567 x105_3).f0) = x24_73
                 rotate_left
                 ·rw [if_neg c80] at H
                  have c80b0 : (((rd_T55 t567 x105_3).f0) == x24_73) = false := beq_eq_false_iff_ne.mpr c80
                  have c80b1 : (((rd_T55 t567 x105_3).f0) != x24_73) = true := bne_iff_ne.mpr c80
                  have H' := Aside0.mk H
                  clear H
                  obtain ⟨Ao84, co84, eo84⟩ := Kd.R_slice HO_16.out
                  subst eo84
                  have p585 : 0 ≤ (x105_3 : Int) := tD
                  have q585 : x105_3 < (t567.length : Int) := tD
                  obtain ⟨ad585, e585, hx585_0, hx585_1, hx585_2⟩ := at_T55 (Kd.R_reads' HO_16.out).2.2 x105_3 p585 q585
                  cases e585
                  replace p585 := eq_true p585
                  replace q585 := eq_true q585
                  go_wp2
                  go_meet
                  case rel => exact ⟨_, (true), tQ, H', ⟨by have := HJ5.out; have := HJ31.out; have := HK3.out; have := HK4.out; have := HJ63.out; have := HJ73.out; first | omega | exact Nat.le_refl _⟩, ⟨kR HO_14⟩, ⟨kR HO_16⟩, ⟨kR HO_18⟩, ⟨kR HO_20⟩, ⟨kK BK548⟩, ⟨kB1 HB GE548⟩⟩
                 rw [if_pos c80] at H
                 have c80b0 : (((rd_T55 t567 x105_3).f0) == x24_73) = true := beq_iff_eq.mpr c80
                 have c80b1 : (((rd_T55 t567 x105_3).f0) != x24_73) = false := bne_eq_false_iff_eq.mpr c80
                 clear c80
                 by_cases c81 : x105_3 < (t574.length : Int)
                 rotate_left
                 ·rw [if_neg c81] at H
                  exact absurd H (by simp)
                 rw [if_pos c81] at H
                 have c81b0 : decide (x105_3 < (t574.length : Int)) = true := decide_eq_true c81
                 clear c81
                 have H' := Aside0.mk H
                 clear H
                 obtain ⟨Ao82, co82, eo82⟩ := Kd.R_slice HO_16.out
                 subst eo82
                 have p585 : 0 ≤ (x105_3 : Int) := tD
                 have q585 : x105_3 < (t567.length : Int) := tD
                 obtain ⟨ad585, e585, hx585_0, hx585_1, hx585_2⟩ := at_T55 (Kd.R_reads' HO_16.out).2.2 x105_3 p585 q585
                 cases e585
                 replace p585 := eq_true p585
                 replace q585 := eq_true q585
                 obtain ⟨Ao83, co83, eo83⟩ := Kd.R_slice HO_18.out
                 subst eo83
                 have p586 : 0 ≤ (x105_3 : Int) := tD
                 have q586 : x105_3 < (t574.length : Int) := tD
                 obtain ⟨ad586, e586, hx586_0, hx586_1, hx586_2⟩ := at_T55 (Kd.R_reads' HO_18.out).2.2 x105_3 p586 q586
                 cases e586
                 replace p586 := eq_true p586
                 replace q586 := eq_true q586
                 go_wp2
                 go_meet
                 case rel => exact ⟨_, ((((rd_T55 t574 x105_3).f0) != 0)), tQ, H', ⟨by have := HJ5.out; have := HJ31.out; have := HK3.out; have := HK4.out; have := HJ63.out; have := HJ73.out; first | omega | exact Nat.le_refl _⟩, ⟨kR HO_14⟩, ⟨kR HO_16⟩, ⟨kR HO_18⟩, ⟨kR HO_20⟩, ⟨kK BK548⟩, ⟨kB1 HB GE548⟩⟩
                exact (c79 (beq_iff_eq.mp c63b0)).elim
               case rest =>
                clear HC76
                obtain ⟨kq, x151_75, rfl, HA, HJ75, HO_14, HO_16, HO_18, HO_20, BK548, HB⟩ := hcut
                cases kq with
                | zero => exact absurd HA.out (by simp [w08_TreeOne.j6])
                | succ kj75 =>
                 have H := HA.out
                 clear HA
                 simp only [w08_TreeOne.j6] at H
                 by_cases c97 : x151_75 = true
                 ·subst c97
                  replace H := ifT H
                  obtain rfl := Option.some.inj H
                  go_wp2
                  go_ret
                  exact ⟨by first | rfl | (simp [errW_none, errW_some] <;> rfl) | (simp only [← hji20]; first | rfl | (simp [errW_none, errW_some] <;> rfl)) | (simp [*, errW_none, errW_some] <;> rfl), kB1 HB GE548⟩
                 replace c97 := Bool.eq_false_iff.mpr c97
                 subst c97
                 replace H := ifF H
                 have H' := Aside0.mk H
                 clear H
                 go_wp2
                 go_meet
                 case rel => exact ⟨_, H', ⟨by have := HJ5.out; have := HJ31.out; have := HK3.out; have := HK4.out; have := HJ63.out; have := HJ73.out; have := HJ75.out; first | omega | exact Nat.le_refl _⟩, ⟨kR HO_14⟩, ⟨kR HO_16⟩, ⟨kR HO_18⟩, ⟨kR HO_20⟩, ⟨kK BK548⟩, ⟨kB1 HB GE548⟩⟩
          rw [if_neg c63] at H
          have c63b0 : (x108_4 == 0) = false := beq_eq_false_iff_ne.mpr c63
          have c63b1 : (x108_4 != 0) = true := bne_iff_ne.mpr c63
          by_cases c98 : x108_4 = 1
          ·rw [if_pos c98] at H
           have c98b0 : (x108_4 == 1) = true := beq_iff_eq.mpr c98
           have c98b1 : (x108_4 != 1) = false := bne_eq_false_iff_eq.mpr c98
           have c98b2 : ∀ (a_ : Addr) (W_ : World), (Instr.indexAt 55 (.pointer (some a_)) (.int .i64 x108_4)).run Try.prog W_ = .ok (.pointer (some (a_.add 1))) W_ := fun a_ W_ => ix_arr Try.underlying55 (fun W_ => by go_simp) 1 (by decide) x108_4 c98 a_ W_
           clear c98
           have HC99 := Aside0.mk H
           clear H
           have p582 : 0 ≤ (x105_3 : Int) := tD
           have q582 : x105_3 < (t563.length : Int) := tD
           obtain ⟨ad582, e582, hx582_0, hx582_1, hx582_2⟩ := at_T55 (Kd.R_reads' HO_14.out).2.2 x105_3 p582 q582
           cases e582
           replace p582 := eq_true p582
           replace q582 := eq_true q582
           go_upto_region 22 with (fail)
           go_cut [131] (fun v131 wc => ∃ (kq : Nat) (x131_98 : Bool), v131 = .bool x131_98 ∧ Aside0 (w08_TreeOne.j7 kq t549 ji20 (Int.tmod (wrap64 (a3)) (wrap64 (81 - (rd t551 (ji20))))) t563 t567 t574 t578 x105_3 x108_4 ((rd_T55 t563 x105_3).f1) (t563.length : Int) x105_3 x108_4 x131_98 l0_0 l0_1 l0_2 l0_3 l0_4 = some r) ∧ Aside0 (kq ≤ k4) ∧ Aside0 (Kd.R k55 55 wc w.heap.size (fun k_ => some k_ ≠ (v568 : Value).ownBlock ∧ some k_ ≠ (v575 : Value).ownBlock) (.slice (some ad582) t563.length co57) t563) ∧ Aside0 (Kd.R k55 55 wc w.heap.size (fun k_ => some k_ ≠ ((.slice (some ad582) t563.length co57) : Value).ownBlock ∧ some k_ ≠ (v575 : Value).ownBlock) v568 t567) ∧ Aside0 (Kd.R k55 55 wc w.heap.size (fun k_ => some k_ ≠ ((.slice (some ad582) t563.length co57) : Value).ownBlock ∧ some k_ ≠ (v568 : Value).ownBlock) v575 t574) ∧ Aside0 (Kd.R (Kd.int .i64) 3 wc w.heap.size (fun _ => True) v579 t578) ∧ Aside0 (wc.heap[gb548]? = some (.cells #[(.slice A0_0 l0_0.length c0_0), (.slice A0_1 l0_1.length c0_1), (.slice A0_2 l0_2.length c0_2), (.slice A0_3 l0_3.length c0_3), (.slice A0_4 l0_4.length c0_4)] 28 (0, 0))) ∧ Aside0 (Below w.heap.size w wc))
           case first =>
            have H := HC99.out
            clear HC99
            obtain ⟨t589, A100, H⟩ := bnd H
            by_cases c101 : t589 = true
            rotate_left
            ·replace c101 := Bool.eq_false_iff.mpr c101
             subst c101
             replace H := ifF H
             have H' := Aside0.mk H
             clear H
             obtain ⟨Ao108, co108, eo108⟩ := Kd.R_slice HO_20.out
             subst eo108
             go_wp2_with (first | ((with_reducible refine gate_callee (f := 21) rfl ?_); refine gL (some 119) Try.func21 #[.slice Ao108 t578.length co108, .int .i64 x105_3] (w08_in.calls k4 _ _ t578 x105_3 false _ (kC (Kd.R_reads' HO_20.out).2.2) ((Kd.R_reads' HO_20.out).2.1) A100.out) ?_; rintro e w' ⟨rfl, ⟨nd, rfl⟩⟩; refine ⟨_, rfl, ?_⟩))
             go_meet
             case rel => exact ⟨_, (false), tQ, H', ⟨by have := HJ5.out; have := HJ31.out; have := HK3.out; have := HK4.out; first | omega | exact Nat.le_refl _⟩, ⟨kR HO_14⟩, ⟨kR HO_16⟩, ⟨kR HO_18⟩, ⟨kR HO_20⟩, ⟨kK BK548⟩, ⟨kB1 HB GE548⟩⟩
            subst c101
            replace H := ifT H
            by_cases c102 : 0 ≤ ji20
            rotate_left
            ·rw [if_neg c102] at H
             exact absurd H (by simp)
            rw [if_pos c102] at H
            have c102b0 : decide (0 ≤ ji20) = true := decide_eq_true c102
            clear c102
            (first | rw [c102b0] | (simp only [i64_w, i32_w]; rw [c102b0]) | skip)
            by_cases c103 : ji20 < (l0_3.length : Int)
            rotate_left
            ·rw [if_neg c103] at H
             exact absurd H (by simp)
            rw [if_pos c103] at H
            have c103b0 : decide (ji20 < (l0_3.length : Int)) = true := decide_eq_true c103
            clear c103
            by_cases c104 : 0 ≤ x108_4
            rotate_left
            ·rw [if_neg c104] at H
             exact absurd H (by simp)
            rw [if_pos c104] at H
            have c104b0 := eq_true c104
            have c104b1 : decide (0 ≤ x108_4) = true := decide_eq_true c104
            clear c104
            obtain ⟨ji105, hji105⟩ : ∃ j_ : Int, (shr .i64 ((rd_T42 l0_3 ji20).f2) x108_4) = j_ := ⟨_, rfl⟩
            replace H : (w08_TreeOne.j7 k4 t549 ji20 (Int.tmod (wrap64 (a3)) (wrap64 (81 - (rd t551 (ji20))))) t563 t567 t574 t578 x105_3 x108_4 ((rd_T55 t563 x105_3).f1) (t563.length : Int) x105_3 x108_4 ((Go.bits .and .i64 (ji105) 1) == 1) l0_0 l0_1 l0_2 l0_3 l0_4) = some r := by first | (rw [hji105] at H; exact H) | (simp only [hji105] at H ⊢; exact H)
            (try rw [hji105] at A100)
            have hji105_ : (((rd_T42 l0_3 ji20).f2) / 2 ^ min x108_4.toNat 64) = ji105 := hji105
            have hji105z : x108_4 ≤ 64 → (((rd_T42 l0_3 ji20).f2) / 2 ^ x108_4.toNat) = ji105 := shr_small hji105
            (try (have hji105w := hji105z (by have h_ := of_decide_eq_true c59b0; omega)))
            have H' := Aside0.mk H
            clear H
            obtain ⟨Ao106, co106, eo106⟩ := Kd.R_slice HO_20.out
            subst eo106
            go_wp2_with (first | ((with_reducible refine gate_callee (f := 21) rfl ?_); refine gL (some 119) Try.func21 #[.slice Ao106 t578.length co106, .int .i64 x105_3] (w08_in.calls k4 _ _ t578 x105_3 true _ (kC (Kd.R_reads' HO_20.out).2.2) ((Kd.R_reads' HO_20.out).2.1) A100.out) ?_; rintro e w' ⟨rfl, ⟨nd, rfl⟩⟩; refine ⟨_, rfl, ?_⟩; obtain ⟨⟨_,_,_,_,_⟩,_,_,_,_,_⟩ := bx5 BK548; have p590 : 0 ≤ (ji20 : Int) := tD; have q590 : ji20 < (l0_3.length : Int) := tD; obtain ⟨ad590, e590, hx590_0, hx590_1, hx590_2, hx590_3, hx590_4, hx590_5, hx590_6, hx590_7⟩ := at_T42 HR0_3.out ji20 p590 q590; cases e590; replace hx590_0 := cB HB hx590_0; replace hx590_1 := cB HB hx590_1; replace hx590_2 := cB HB hx590_2; replace hx590_3 := cB HB hx590_3; replace hx590_4 := cB HB hx590_4; replace hx590_5 := cB HB hx590_5; replace hx590_6 := cB HB hx590_6; replace hx590_7 := cB HB hx590_7; replace p590 := eq_true p590; replace q590 := eq_true q590))
            (try simp only [← hji105])
            go_meet
            case rel => exact ⟨_, (((Go.bits .and .i64 (ji105) 1) == 1)), (by first | rfl | (simp; done) | (simp only [← hji105] <;> (first | rfl | simp)) | (simp [*]; done)), H', ⟨by have := HJ5.out; have := HJ31.out; have := HK3.out; have := HK4.out; first | omega | exact Nat.le_refl _⟩, ⟨kR HO_14⟩, ⟨kR HO_16⟩, ⟨kR HO_18⟩, ⟨kR HO_20⟩, ⟨kK BK548⟩, ⟨kB1 HB GE548⟩⟩
           case rest =>
            clear HC99
            obtain ⟨kq, x131_98, rfl, HA, HJ98, HO_14, HO_16, HO_18, HO_20, BK548, HB⟩ := hcut
            cases kq with
            | zero => exact absurd HA.out (by simp [w08_TreeOne.j7])
            | succ kj98 =>
             have H := HA.out
             clear HA
             simp only [w08_TreeOne.j7] at H
             have HC109 := Aside0.mk H
             clear H
             go_upto_if 131 with (fail)
             go_cut [24] (fun v24 wc => ∃ (kq : Nat) (x24_108 : Int), v24 = .int .i64 x24_108 ∧ Aside0 (w08_TreeOne.j8 kq t549 ji20 (Int.tmod (wrap64 (a3)) (wrap64 (81 - (rd t551 (ji20))))) t563 t567 t574 t578 x105_3 x108_4 x24_108 (t563.length : Int) x105_3 x108_4 l0_0 l0_1 l0_2 l0_3 l0_4 = some r) ∧ Aside0 (kq ≤ kj98) ∧ Aside0 (Kd.R k55 55 wc w.heap.size (fun k_ => some k_ ≠ (v568 : Value).ownBlock ∧ some k_ ≠ (v575 : Value).ownBlock) (.slice (some ad582) t563.length co57) t563) ∧ Aside0 (Kd.R k55 55 wc w.heap.size (fun k_ => some k_ ≠ ((.slice (some ad582) t563.length co57) : Value).ownBlock ∧ some k_ ≠ (v575 : Value).ownBlock) v568 t567) ∧ Aside0 (Kd.R k55 55 wc w.heap.size (fun k_ => some k_ ≠ ((.slice (some ad582) t563.length co57) : Value).ownBlock ∧ some k_ ≠ (v568 : Value).ownBlock) v575 t574) ∧ Aside0 (Kd.R (Kd.int .i64) 3 wc w.heap.size (fun _ => True) v579 t578) ∧ Aside0 (wc.heap[gb548]? = some (.cells #[(.slice A0_0 l0_0.length c0_0), (.slice A0_1 l0_1.length c0_1), (.slice A0_2 l0_2.length c0_2), (.slice A0_3 l0_3.length c0_3), (.slice A0_4 l0_4.length c0_4)] 28 (0, 0))) ∧ Aside0 (Below w.heap.size w wc))
             case first =>
              have H := HC109.out
              clear HC109
              by_cases c110 : x131_98 = true
              rotate_left
              ·replace c110 := Bool.eq_false_iff.mpr c110
               subst c110
               replace H := ifF H
               have H' := Aside0.mk H
               clear H
               go_wp2
               go_meet
               case rel => exact ⟨_, (((rd_T55 t563 x105_3).f1)), tQ, H', ⟨by have := HJ5.out; have := HJ31.out; have := HK3.out; have := HK4.out; have := HJ98.out; first | omega | exact Nat.le_refl _⟩, ⟨kR HO_14⟩, ⟨kR HO_16⟩, ⟨kR HO_18⟩, ⟨kR HO_20⟩, ⟨kK BK548⟩, ⟨kB1 HB GE548⟩⟩
              subst c110
              replace H := ifT H
              have H' := Aside0.mk H
              clear H
              go_wp2
              go_meet
              case rel => exact ⟨_, (wrap64 (((rd_T55 t563 x105_3).f1) + (Int.tmod (wrap64 (a3)) (wrap64 (81 - (rd t551 (ji20))))))), (by first | rfl | (simp; done) | (simp only [← hji20] <;> (first | rfl | simp)) | (simp [*]; done)), H', ⟨by have := HJ5.out; have := HJ31.out; have := HK3.out; have := HK4.out; have := HJ98.out; first | omega | exact Nat.le_refl _⟩, ⟨kR HO_14⟩, ⟨kR HO_16⟩, ⟨kR HO_18⟩, ⟨kR HO_20⟩, ⟨kK BK548⟩, ⟨kB1 HB GE548⟩⟩
             case rest =>
              clear HC109
              obtain ⟨kq, x24_108, rfl, HA, HJ108, HO_14, HO_16, HO_18, HO_20, BK548, HB⟩ := hcut
              cases kq with
              | zero => exact absurd HA.out (by simp [w08_TreeOne.j8])
              | succ kj108 =>
               have H := HA.out
               clear HA
               simp only [w08_TreeOne.j8] at H
               have HC111 := Aside0.mk H
               clear H
               go_upto_region 24 with (fail)
               go_cut [151] (fun v151 wc => ∃ (kq : Nat) (x151_110 : Bool), v151 = .bool x151_110 ∧ Aside0 (w08_TreeOne.j9 kq t549 ji20 (Int.tmod (wrap64 (a3)) (wrap64 (81 - (rd t551 (ji20))))) t563 t567 t574 t578 x105_3 (t563.length : Int) x105_3 x108_4 x151_110 l0_0 l0_1 l0_2 l0_3 l0_4 = some r) ∧ Aside0 (kq ≤ kj108) ∧ Aside0 (Kd.R k55 55 wc w.heap.size (fun k_ => some k_ ≠ (v568 : Value).ownBlock ∧ some k_ ≠ (v575 : Value).ownBlock) (.slice (some ad582) t563.length co57) t563) ∧ Aside0 (Kd.R k55 55 wc w.heap.size (fun k_ => some k_ ≠ ((.slice (some ad582) t563.length co57) : Value).ownBlock ∧ some k_ ≠ (v575 : Value).ownBlock) v568 t567) ∧ Aside0 (Kd.R k55 55 wc w.heap.size (fun k_ => some k_ ≠ ((.slice (some ad582) t563.length co57) : Value).ownBlock ∧ some k_ ≠ (v568 : Value).ownBlock) v575 t574) ∧ Aside0 (Kd.R (Kd.int .i64) 3 wc w.heap.size (fun _ => True) v579 t578) ∧ Aside0 (wc.heap[gb548]? = some (.cells #[(.slice A0_0 l0_0.length c0_0), (.slice A0_1 l0_1.length c0_1), (.slice A0_2 l0_2.length c0_2), (.slice A0_3 l0_3.length c0_3), (.slice A0_4 l0_4.length c0_4)] 28 (0, 0))) ∧ Aside0 (Below w.heap.size w wc))
               case first =>
                have H := HC111.out
                clear HC111
                by_cases c112 : 0 ≤ x105_3
                rotate_left
                ·rw [if_neg c112] at H
                 exact absurd H (by simp)
                rw [if_pos c112] at H
                have c112b0 : decide (0 ≤ x105_3) = true := decide_eq_true c112
                clear c112
                (first | rw [c112b0] | (simp only [i64_w, i32_w]; rw [c112b0]) | skip)
                by_cases c113 : x105_3 < (t567.length : Int)
                rotate_left
                ·rw [if_neg c113] at H
                 exact absurd H (by simp)
                rw [if_pos c113] at H
                have c113b0 : decide (x105_3 < (t567.length : Int)) = true := decide_eq_true c113
                clear c113
                by_cases c114 : x108_4 = 0
                ·exact (c63 c114).elim
                rw [if_neg c114] at H
                have c114b0 : (x108_4 == 0) = false := beq_eq_false_iff_ne.mpr c114
                have c114b1 : (x108_4 != 0) = true := bne_iff_ne.mpr c114
                by_cases c120 : x108_4 = 1
                ·rw [if_pos c120] at H
                 have c120b0 : (x108_4 == 1) = true := beq_iff_eq.mpr c120
                 have c120b1 : (x108_4 != 1) = false := bne_eq_false_iff_eq.mpr c120
                 have c120b2 : ∀ (a_ : Addr) (W_ : World), (Instr.indexAt 55 (.pointer (some a_)) (.int .i64 x108_4)).run Try.prog W_ = .ok (.pointer (some (a_.add 1))) W_ := fun a_ W_ => ix_arr Try.underlying55 (fun W_ => by go_simp) 1 (by decide) x108_4 c120 a_ W_
                 clear c120
                 by_cases c121 : ((rd_T55 t567 x105_3).f1) = x24_108
                 rotate_left
                 ·rw [if_neg c121] at H
                  have c121b0 : (((rd_T55 t567 x105_3).f1) == x24_108) = false := beq_eq_false_iff_ne.mpr c121
                  have c121b1 : (((rd_T55 t567 x105_3).f1) != x24_108) = true := bne_iff_ne.mpr c121
                  have H' := Aside0.mk H
                  clear H
                  obtain ⟨Ao125, co125, eo125⟩ := Kd.R_slice HO_16.out
                  subst eo125
                  have p591 : 0 ≤ (x105_3 : Int) := tD
                  have q591 : x105_3 < (t567.length : Int) := tD
                  obtain ⟨ad591, e591, hx591_0, hx591_1, hx591_2⟩ := at_T55 (Kd.R_reads' HO_16.out).2.2 x105_3 p591 q591
                  cases e591
                  replace p591 := eq_true p591
                  replace q591 := eq_true q591
                  go_wp2
                  go_meet
                  case rel => exact ⟨_, (true), tQ, H', ⟨by have := HJ5.out; have := HJ31.out; have := HK3.out; have := HK4.out; have := HJ98.out; have := HJ108.out; first | omega | exact Nat.le_refl _⟩, ⟨kR HO_14⟩, ⟨kR HO_16⟩, ⟨kR HO_18⟩, ⟨kR HO_20⟩, ⟨kK BK548⟩, ⟨kB1 HB GE548⟩⟩
                 rw [if_pos c121] at H
                 have c121b0 : (((rd_T55 t567 x105_3).f1) == x24_108) = true := beq_iff_eq.mpr c121
                 have c121b1 : (((rd_T55 t567 x105_3).f1) != x24_108) = false := bne_eq_false_iff_eq.mpr c121
                 clear c121
                 by_cases c122 : x105_3 < (t574.length : Int)
                 rotate_left
                 ·rw [if_neg c122] at H
                  exact absurd H (by simp)
                 rw [if_pos c122] at H
                 have c122b0 : decide (x105_3 < (t574.length : Int)) = true := decide_eq_true c122
                 clear c122
                 have H' := Aside0.mk H
                 clear H
                 obtain ⟨Ao123, co123, eo123⟩ := Kd.R_slice HO_16.out
                 subst eo123
                 have p591 : 0 ≤ (x105_3 : Int) := tD
                 have q591 : x105_3 < (t567.length : Int) := tD
                 obtain ⟨ad591, e591, hx591_0, hx591_1, hx591_2⟩ := at_T55 (Kd.R_reads' HO_16.out).2.2 x105_3 p591 q591
                 cases e591
                 replace p591 := eq_true p591
                 replace q591 := eq_true q591
                 obtain ⟨Ao124, co124, eo124⟩ := Kd.R_slice HO_18.out
                 subst eo124
                 have p593 : 0 ≤ (x105_3 : Int) := tD
                 have q593 : x105_3 < (t574.length : Int) := tD
                 obtain ⟨ad593, e593, hx593_0, hx593_1, hx593_2⟩ := at_T55 (Kd.R_reads' HO_18.out).2.2 x105_3 p593 q593
                 cases e593
                 replace p593 := eq_true p593
                 replace q593 := eq_true q593
                 go_wp2
                 go_meet
                 case rel => exact ⟨_, ((((rd_T55 t574 x105_3).f1) != 0)), tQ, H', ⟨by have := HJ5.out; have := HJ31.out; have := HK3.out; have := HK4.out; have := HJ98.out; have := HJ108.out; first | omega | exact Nat.le_refl _⟩, ⟨kR HO_14⟩, ⟨kR HO_16⟩, ⟨kR HO_18⟩, ⟨kR HO_20⟩, ⟨kK BK548⟩, ⟨kB1 HB GE548⟩⟩
                exact (c120 (beq_iff_eq.mp c98b0)).elim
               case rest =>
                clear HC111
                obtain ⟨kq, x151_110, rfl, HA, HJ110, HO_14, HO_16, HO_18, HO_20, BK548, HB⟩ := hcut
                cases kq with
                | zero => exact absurd HA.out (by simp [w08_TreeOne.j9])
                | succ kj110 =>
                 have H := HA.out
                 clear HA
                 simp only [w08_TreeOne.j9] at H
                 by_cases c132 : x151_110 = true
                 ·subst c132
                  replace H := ifT H
                  obtain rfl := Option.some.inj H
                  go_wp2
                  go_ret
                  exact ⟨by first | rfl | (simp [errW_none, errW_some] <;> rfl) | (simp only [← hji20]; first | rfl | (simp [errW_none, errW_some] <;> rfl)) | (simp [*, errW_none, errW_some] <;> rfl), kB1 HB GE548⟩
                 replace c132 := Bool.eq_false_iff.mpr c132
                 subst c132
                 replace H := ifF H
                 have H' := Aside0.mk H
                 clear H
                 go_wp2
                 go_meet
                 case rel => exact ⟨_, H', ⟨by have := HJ5.out; have := HJ31.out; have := HK3.out; have := HK4.out; have := HJ98.out; have := HJ108.out; have := HJ110.out; first | omega | exact Nat.le_refl _⟩, ⟨kR HO_14⟩, ⟨kR HO_16⟩, ⟨kR HO_18⟩, ⟨kR HO_20⟩, ⟨kK BK548⟩, ⟨kB1 HB GE548⟩⟩
          rw [if_neg c98] at H
          have c98b0 : (x108_4 == 1) = false := beq_eq_false_iff_ne.mpr c98
          have c98b1 : (x108_4 != 1) = true := bne_iff_ne.mpr c98
          by_cases c133 : x108_4 = 2
          rotate_left
          ·rw [if_neg c133] at H
           exact absurd H (by simp)
          rw [if_pos c133] at H
          have c133b0 : (x108_4 == 2) = true := beq_iff_eq.mpr c133
          have c133b1 : (x108_4 != 2) = false := bne_eq_false_iff_eq.mpr c133
          have c133b2 : ∀ (a_ : Addr) (W_ : World), (Instr.indexAt 55 (.pointer (some a_)) (.int .i64 x108_4)).run Try.prog W_ = .ok (.pointer (some (a_.add 2))) W_ := fun a_ W_ => ix_arr Try.underlying55 (fun W_ => by go_simp) 2 (by decide) x108_4 c133 a_ W_
          clear c133
          have HC134 := Aside0.mk H
          clear H
          have p582 : 0 ≤ (x105_3 : Int) := tD
          have q582 : x105_3 < (t563.length : Int) := tD
          obtain ⟨ad582, e582, hx582_0, hx582_1, hx582_2⟩ := at_T55 (Kd.R_reads' HO_14.out).2.2 x105_3 p582 q582
          cases e582
          replace p582 := eq_true p582
          replace q582 := eq_true q582
          go_upto_region 22 with (fail)
          go_cut [131] (fun v131 wc => ∃ (kq : Nat) (x131_133 : Bool), v131 = .bool x131_133 ∧ Aside0 (w08_TreeOne.j10 kq t549 ji20 (Int.tmod (wrap64 (a3)) (wrap64 (81 - (rd t551 (ji20))))) t563 t567 t574 t578 x105_3 x108_4 ((rd_T55 t563 x105_3).f2) (t563.length : Int) x105_3 x108_4 x131_133 l0_0 l0_1 l0_2 l0_3 l0_4 = some r) ∧ Aside0 (kq ≤ k4) ∧ Aside0 (Kd.R k55 55 wc w.heap.size (fun k_ => some k_ ≠ (v568 : Value).ownBlock ∧ some k_ ≠ (v575 : Value).ownBlock) (.slice (some ad582) t563.length co57) t563) ∧ Aside0 (Kd.R k55 55 wc w.heap.size (fun k_ => some k_ ≠ ((.slice (some ad582) t563.length co57) : Value).ownBlock ∧ some k_ ≠ (v575 : Value).ownBlock) v568 t567) ∧ Aside0 (Kd.R k55 55 wc w.heap.size (fun k_ => some k_ ≠ ((.slice (some ad582) t563.length co57) : Value).ownBlock ∧ some k_ ≠ (v568 : Value).ownBlock) v575 t574) ∧ Aside0 (Kd.R (Kd.int .i64) 3 wc w.heap.size (fun _ => True) v579 t578) ∧ Aside0 (wc.heap[gb548]? = some (.cells #[(.slice A0_0 l0_0.length c0_0), (.slice A0_1 l0_1.length c0_1), (.slice A0_2 l0_2.length c0_2), (.slice A0_3 l0_3.length c0_3), (.slice A0_4 l0_4.length c0_4)] 28 (0, 0))) ∧ Aside0 (Below w.heap.size w wc))
          case first =>
           have H := HC134.out
           clear HC134
           obtain ⟨t595, A135, H⟩ := bnd H
           by_cases c136 : t595 = true
           rotate_left
           ·replace c136 := Bool.eq_false_iff.mpr c136
            subst c136
            replace H := ifF H
            have H' := Aside0.mk H
            clear H
            obtain ⟨Ao143, co143, eo143⟩ := Kd.R_slice HO_20.out
            subst eo143
            go_wp2_with (first | ((with_reducible refine gate_callee (f := 21) rfl ?_); refine gL (some 119) Try.func21 #[.slice Ao143 t578.length co143, .int .i64 x105_3] (w08_in.calls k4 _ _ t578 x105_3 false _ (kC (Kd.R_reads' HO_20.out).2.2) ((Kd.R_reads' HO_20.out).2.1) A135.out) ?_; rintro e w' ⟨rfl, ⟨nd, rfl⟩⟩; refine ⟨_, rfl, ?_⟩))
            go_meet
            case rel => exact ⟨_, (false), tQ, H', ⟨by have := HJ5.out; have := HJ31.out; have := HK3.out; have := HK4.out; first | omega | exact Nat.le_refl _⟩, ⟨kR HO_14⟩, ⟨kR HO_16⟩, ⟨kR HO_18⟩, ⟨kR HO_20⟩, ⟨kK BK548⟩, ⟨kB1 HB GE548⟩⟩
           subst c136
           replace H := ifT H
           by_cases c137 : 0 ≤ ji20
           rotate_left
           ·rw [if_neg c137] at H
            exact absurd H (by simp)
           rw [if_pos c137] at H
           have c137b0 : decide (0 ≤ ji20) = true := decide_eq_true c137
           clear c137
           (first | rw [c137b0] | (simp only [i64_w, i32_w]; rw [c137b0]) | skip)
           by_cases c138 : ji20 < (l0_3.length : Int)
           rotate_left
           ·rw [if_neg c138] at H
            exact absurd H (by simp)
           rw [if_pos c138] at H
           have c138b0 : decide (ji20 < (l0_3.length : Int)) = true := decide_eq_true c138
           clear c138
           by_cases c139 : 0 ≤ x108_4
           rotate_left
           ·rw [if_neg c139] at H
            exact absurd H (by simp)
           rw [if_pos c139] at H
           have c139b0 := eq_true c139
           have c139b1 : decide (0 ≤ x108_4) = true := decide_eq_true c139
           clear c139
           obtain ⟨ji140, hji140⟩ : ∃ j_ : Int, (shr .i64 ((rd_T42 l0_3 ji20).f2) x108_4) = j_ := ⟨_, rfl⟩
           replace H : (w08_TreeOne.j10 k4 t549 ji20 (Int.tmod (wrap64 (a3)) (wrap64 (81 - (rd t551 (ji20))))) t563 t567 t574 t578 x105_3 x108_4 ((rd_T55 t563 x105_3).f2) (t563.length : Int) x105_3 x108_4 ((Go.bits .and .i64 (ji140) 1) == 1) l0_0 l0_1 l0_2 l0_3 l0_4) = some r := by first | (rw [hji140] at H; exact H) | (simp only [hji140] at H ⊢; exact H)
           (try rw [hji140] at A135)
           have hji140_ : (((rd_T42 l0_3 ji20).f2) / 2 ^ min x108_4.toNat 64) = ji140 := hji140
           have hji140z : x108_4 ≤ 64 → (((rd_T42 l0_3 ji20).f2) / 2 ^ x108_4.toNat) = ji140 := shr_small hji140
           (try (have hji140w := hji140z (by have h_ := of_decide_eq_true c59b0; omega)))
           have H' := Aside0.mk H
           clear H
           obtain ⟨Ao141, co141, eo141⟩ := Kd.R_slice HO_20.out
           subst eo141
           go_wp2_with (first | ((with_reducible refine gate_callee (f := 21) rfl ?_); refine gL (some 119) Try.func21 #[.slice Ao141 t578.length co141, .int .i64 x105_3] (w08_in.calls k4 _ _ t578 x105_3 true _ (kC (Kd.R_reads' HO_20.out).2.2) ((Kd.R_reads' HO_20.out).2.1) A135.out) ?_; rintro e w' ⟨rfl, ⟨nd, rfl⟩⟩; refine ⟨_, rfl, ?_⟩; obtain ⟨⟨_,_,_,_,_⟩,_,_,_,_,_⟩ := bx5 BK548; have p596 : 0 ≤ (ji20 : Int) := tD; have q596 : ji20 < (l0_3.length : Int) := tD; obtain ⟨ad596, e596, hx596_0, hx596_1, hx596_2, hx596_3, hx596_4, hx596_5, hx596_6, hx596_7⟩ := at_T42 HR0_3.out ji20 p596 q596; cases e596; replace hx596_0 := cB HB hx596_0; replace hx596_1 := cB HB hx596_1; replace hx596_2 := cB HB hx596_2; replace hx596_3 := cB HB hx596_3; replace hx596_4 := cB HB hx596_4; replace hx596_5 := cB HB hx596_5; replace hx596_6 := cB HB hx596_6; replace hx596_7 := cB HB hx596_7; replace p596 := eq_true p596; replace q596 := eq_true q596))
           (try simp only [← hji140])
           go_meet
           case rel => exact ⟨_, (((Go.bits .and .i64 (ji140) 1) == 1)), (by first | rfl | (simp; done) | (simp only [← hji140] <;> (first | rfl | simp)) | (simp [*]; done)), H', ⟨by have := HJ5.out; have := HJ31.out; have := HK3.out; have := HK4.out; first | omega | exact Nat.le_refl _⟩, ⟨kR HO_14⟩, ⟨kR HO_16⟩, ⟨kR HO_18⟩, ⟨kR HO_20⟩, ⟨kK BK548⟩, ⟨kB1 HB GE548⟩⟩
          case rest =>
           clear HC134
           obtain ⟨kq, x131_133, rfl, HA, HJ133, HO_14, HO_16, HO_18, HO_20, BK548, HB⟩ := hcut
           cases kq with
           | zero => exact absurd HA.out (by simp [w08_TreeOne.j10])
           | succ kj133 =>
            have H := HA.out
            clear HA
            simp only [w08_TreeOne.j10] at H
            have HC144 := Aside0.mk H
            clear H
            go_upto_if 131 with (fail)
            go_cut [24] (fun v24 wc => ∃ (kq : Nat) (x24_143 : Int), v24 = .int .i64 x24_143 ∧ Aside0 (w08_TreeOne.j11 kq t549 ji20 (Int.tmod (wrap64 (a3)) (wrap64 (81 - (rd t551 (ji20))))) t563 t567 t574 t578 x105_3 x108_4 x24_143 (t563.length : Int) x105_3 x108_4 l0_0 l0_1 l0_2 l0_3 l0_4 = some r) ∧ Aside0 (kq ≤ kj133) ∧ Aside0 (Kd.R k55 55 wc w.heap.size (fun k_ => some k_ ≠ (v568 : Value).ownBlock ∧ some k_ ≠ (v575 : Value).ownBlock) (.slice (some ad582) t563.length co57) t563) ∧ Aside0 (Kd.R k55 55 wc w.heap.size (fun k_ => some k_ ≠ ((.slice (some ad582) t563.length co57) : Value).ownBlock ∧ some k_ ≠ (v575 : Value).ownBlock) v568 t567) ∧ Aside0 (Kd.R k55 55 wc w.heap.size (fun k_ => some k_ ≠ ((.slice (some ad582) t563.length co57) : Value).ownBlock ∧ some k_ ≠ (v568 : Value).ownBlock) v575 t574) ∧ Aside0 (Kd.R (Kd.int .i64) 3 wc w.heap.size (fun _ => True) v579 t578) ∧ Aside0 (wc.heap[gb548]? = some (.cells #[(.slice A0_0 l0_0.length c0_0), (.slice A0_1 l0_1.length c0_1), (.slice A0_2 l0_2.length c0_2), (.slice A0_3 l0_3.length c0_3), (.slice A0_4 l0_4.length c0_4)] 28 (0, 0))) ∧ Aside0 (Below w.heap.size w wc))
            case first =>
             have H := HC144.out
             clear HC144
             by_cases c145 : x131_133 = true
             rotate_left
             ·replace c145 := Bool.eq_false_iff.mpr c145
              subst c145
              replace H := ifF H
              have H' := Aside0.mk H
              clear H
              go_wp2
              go_meet
              case rel => exact ⟨_, (((rd_T55 t563 x105_3).f2)), tQ, H', ⟨by have := HJ5.out; have := HJ31.out; have := HK3.out; have := HK4.out; have := HJ133.out; first | omega | exact Nat.le_refl _⟩, ⟨kR HO_14⟩, ⟨kR HO_16⟩, ⟨kR HO_18⟩, ⟨kR HO_20⟩, ⟨kK BK548⟩, ⟨kB1 HB GE548⟩⟩
             subst c145
             replace H := ifT H
             have H' := Aside0.mk H
             clear H
             go_wp2
             go_meet
             case rel => exact ⟨_, (wrap64 (((rd_T55 t563 x105_3).f2) + (Int.tmod (wrap64 (a3)) (wrap64 (81 - (rd t551 (ji20))))))), (by first | rfl | (simp; done) | (simp only [← hji20] <;> (first | rfl | simp)) | (simp [*]; done)), H', ⟨by have := HJ5.out; have := HJ31.out; have := HK3.out; have := HK4.out; have := HJ133.out; first | omega | exact Nat.le_refl _⟩, ⟨kR HO_14⟩, ⟨kR HO_16⟩, ⟨kR HO_18⟩, ⟨kR HO_20⟩, ⟨kK BK548⟩, ⟨kB1 HB GE548⟩⟩
            case rest =>
             clear HC144
             obtain ⟨kq, x24_143, rfl, HA, HJ143, HO_14, HO_16, HO_18, HO_20, BK548, HB⟩ := hcut
             cases kq with
             | zero => exact absurd HA.out (by simp [w08_TreeOne.j11])
             | succ kj143 =>
              have H := HA.out
              clear HA
              simp only [w08_TreeOne.j11] at H
              have HC146 := Aside0.mk H
              clear H
              go_upto_region 24 with (fail)
              go_cut [151] (fun v151 wc => ∃ (kq : Nat) (x151_145 : Bool), v151 = .bool x151_145 ∧ Aside0 (w08_TreeOne.j12 kq t549 ji20 (Int.tmod (wrap64 (a3)) (wrap64 (81 - (rd t551 (ji20))))) t563 t567 t574 t578 x105_3 (t563.length : Int) x105_3 x108_4 x151_145 l0_0 l0_1 l0_2 l0_3 l0_4 = some r) ∧ Aside0 (kq ≤ kj143) ∧ Aside0 (Kd.R k55 55 wc w.heap.size (fun k_ => some k_ ≠ (v568 : Value).ownBlock ∧ some k_ ≠ (v575 : Value).ownBlock) (.slice (some ad582) t563.length co57) t563) ∧ Aside0 (Kd.R k55 55 wc w.heap.size (fun k_ => some k_ ≠ ((.slice (some ad582) t563.length co57) : Value).ownBlock ∧ some k_ ≠ (v575 : Value).ownBlock) v568 t567) ∧ Aside0 (Kd.R k55 55 wc w.heap.size (fun k_ => some k_ ≠ ((.slice (some ad582) t563.length co57) : Value).ownBlock ∧ some k_ ≠ (v568 : Value).ownBlock) v575 t574) ∧ Aside0 (Kd.R (Kd.int .i64) 3 wc w.heap.size (fun _ => True) v579 t578) ∧ Aside0 (wc.heap[gb548]? = some (.cells #[(.slice A0_0 l0_0.length c0_0), (.slice A0_1 l0_1.length c0_1), (.slice A0_2 l0_2.length c0_2), (.slice A0_3 l0_3.length c0_3), (.slice A0_4 l0_4.length c0_4)] 28 (0, 0))) ∧ Aside0 (Below w.heap.size w wc))
              case first =>
               have H := HC146.out
               clear HC146
               by_cases c147 : 0 ≤ x105_3
               rotate_left
               ·rw [if_neg c147] at H
                exact absurd H (by simp)
               rw [if_pos c147] at H
               have c147b0 : decide (0 ≤ x105_3) = true := decide_eq_true c147
               clear c147
               (first | rw [c147b0] | (simp only [i64_w, i32_w]; rw [c147b0]) | skip)
               by_cases c148 : x105_3 < (t567.length : Int)
               rotate_left
               ·rw [if_neg c148] at H
                exact absurd H (by simp)
               rw [if_pos c148] at H
               have c148b0 : decide (x105_3 < (t567.length : Int)) = true := decide_eq_true c148
               clear c148
               by_cases c149 : x108_4 = 0
               ·exact (c63 c149).elim
               rw [if_neg c149] at H
               have c149b0 : (x108_4 == 0) = false := beq_eq_false_iff_ne.mpr c149
               have c149b1 : (x108_4 != 0) = true := bne_iff_ne.mpr c149
               by_cases c155 : x108_4 = 1
               ·exact (c98 c155).elim
               rw [if_neg c155] at H
               have c155b0 : (x108_4 == 1) = false := beq_eq_false_iff_ne.mpr c155
               have c155b1 : (x108_4 != 1) = true := bne_iff_ne.mpr c155
               by_cases c161 : x108_4 = 2
               rotate_left
               ·exact (c161 (beq_iff_eq.mp c133b0)).elim
               rw [if_pos c161] at H
               have c161b0 : (x108_4 == 2) = true := beq_iff_eq.mpr c161
               have c161b1 : (x108_4 != 2) = false := bne_eq_false_iff_eq.mpr c161
               have c161b2 : ∀ (a_ : Addr) (W_ : World), (Instr.indexAt 55 (.pointer (some a_)) (.int .i64 x108_4)).run Try.prog W_ = .ok (.pointer (some (a_.add 2))) W_ := fun a_ W_ => ix_arr Try.underlying55 (fun W_ => by go_simp) 2 (by decide) x108_4 c161 a_ W_
               clear c161
               by_cases c162 : ((rd_T55 t567 x105_3).f2) = x24_143
               rotate_left
               ·rw [if_neg c162] at H
                have c162b0 : (((rd_T55 t567 x105_3).f2) == x24_143) = false := beq_eq_false_iff_ne.mpr c162
                have c162b1 : (((rd_T55 t567 x105_3).f2) != x24_143) = true := bne_iff_ne.mpr c162
                have H' := Aside0.mk H
                clear H
                obtain ⟨Ao166, co166, eo166⟩ := Kd.R_slice HO_16.out
                subst eo166
                have p597 : 0 ≤ (x105_3 : Int) := tD
                have q597 : x105_3 < (t567.length : Int) := tD
                obtain ⟨ad597, e597, hx597_0, hx597_1, hx597_2⟩ := at_T55 (Kd.R_reads' HO_16.out).2.2 x105_3 p597 q597
                cases e597
                replace p597 := eq_true p597
                replace q597 := eq_true q597
                go_wp2
                go_meet
                case rel => exact ⟨_, (true), tQ, H', ⟨by have := HJ5.out; have := HJ31.out; have := HK3.out; have := HK4.out; have := HJ133.out; have := HJ143.out; first | omega | exact Nat.le_refl _⟩, ⟨kR HO_14⟩, ⟨kR HO_16⟩, ⟨kR HO_18⟩, ⟨kR HO_20⟩, ⟨kK BK548⟩, ⟨kB1 HB GE548⟩⟩
               rw [if_pos c162] at H
               have c162b0 : (((rd_T55 t567 x105_3).f2) == x24_143) = true := beq_iff_eq.mpr c162
               have c162b1 : (((rd_T55 t567 x105_3).f2) != x24_143) = false := bne_eq_false_iff_eq.mpr c162
               clear c162
               by_cases c163 : x105_3 < (t574.length : Int)
               rotate_left
               ·rw [if_neg c163] at H
                exact absurd H (by simp)
               rw [if_pos c163] at H
               have c163b0 : decide (x105_3 < (t574.length : Int)) = true := decide_eq_true c163
               clear c163
               have H' := Aside0.mk H
               clear H
               obtain ⟨Ao164, co164, eo164⟩ := Kd.R_slice HO_16.out
               subst eo164
               have p597 : 0 ≤ (x105_3 : Int) := tD
               have q597 : x105_3 < (t567.length : Int) := tD
               obtain ⟨ad597, e597, hx597_0, hx597_1, hx597_2⟩ := at_T55 (Kd.R_reads' HO_16.out).2.2 x105_3 p597 q597
               cases e597
               replace p597 := eq_true p597
               replace q597 := eq_true q597
               obtain ⟨Ao165, co165, eo165⟩ := Kd.R_slice HO_18.out
               subst eo165
               have p600 : 0 ≤ (x105_3 : Int) := tD
               have q600 : x105_3 < (t574.length : Int) := tD
               obtain ⟨ad600, e600, hx600_0, hx600_1, hx600_2⟩ := at_T55 (Kd.R_reads' HO_18.out).2.2 x105_3 p600 q600
               cases e600
               replace p600 := eq_true p600
               replace q600 := eq_true q600
               go_wp2
               go_meet
               case rel => exact ⟨_, ((((rd_T55 t574 x105_3).f2) != 0)), tQ, H', ⟨by have := HJ5.out; have := HJ31.out; have := HK3.out; have := HK4.out; have := HJ133.out; have := HJ143.out; first | omega | exact Nat.le_refl _⟩, ⟨kR HO_14⟩, ⟨kR HO_16⟩, ⟨kR HO_18⟩, ⟨kR HO_20⟩, ⟨kK BK548⟩, ⟨kB1 HB GE548⟩⟩
              case rest =>
               clear HC146
               obtain ⟨kq, x151_145, rfl, HA, HJ145, HO_14, HO_16, HO_18, HO_20, BK548, HB⟩ := hcut
               cases kq with
               | zero => exact absurd HA.out (by simp [w08_TreeOne.j12])
               | succ kj145 =>
                have H := HA.out
                clear HA
                simp only [w08_TreeOne.j12] at H
                by_cases c167 : x151_145 = true
                ·subst c167
                 replace H := ifT H
                 obtain rfl := Option.some.inj H
                 go_wp2
                 go_ret
                 exact ⟨by first | rfl | (simp [errW_none, errW_some] <;> rfl) | (simp only [← hji20]; first | rfl | (simp [errW_none, errW_some] <;> rfl)) | (simp [*, errW_none, errW_some] <;> rfl), kB1 HB GE548⟩
                replace c167 := Bool.eq_false_iff.mpr c167
                subst c167
                replace H := ifF H
                have H' := Aside0.mk H
                clear H
                go_wp2
                go_meet
                case rel => exact ⟨_, H', ⟨by have := HJ5.out; have := HJ31.out; have := HK3.out; have := HK4.out; have := HJ133.out; have := HJ143.out; have := HJ145.out; first | omega | exact Nat.le_refl _⟩, ⟨kR HO_14⟩, ⟨kR HO_16⟩, ⟨kR HO_18⟩, ⟨kR HO_20⟩, ⟨kK BK548⟩, ⟨kB1 HB GE548⟩⟩
         case rest =>
          clear HC60
          obtain ⟨kq, HA, HJ59, HO_14, HO_16, HO_18, HO_20, BK548, HB⟩ := hcut
          cases kq with
          | zero => exact absurd HA.out (by simp [w08_TreeOne.j13])
          | succ kj59 =>
           have H := HA.out
           clear HA
           simp only [w08_TreeOne.j13] at H
           have H' := Aside0.mk H
           clear H
           go_wp2
           go_roundg kj59
           case measure => have := HJ5.out; have := HJ31.out; have := HK3.out; have := HK4.out; have := HJ59.out; omega
           case rel => exact ⟨(wrap64 (x108_4 + 1)), tQ, H', ⟨by have := HJ5.out; have := HJ31.out; have := HK3.out; have := HK4.out; have := HJ59.out; omega⟩, ⟨kR HO_14⟩, ⟨kR HO_16⟩, ⟨kR HO_18⟩, ⟨kR HO_20⟩, ⟨kK BK548⟩, ⟨kB1 HB GE548⟩⟩
def w08_TreeOne.Pure : Prop := ∀ (s0 : S28) (l1 : List Int) (a2 : Int) (a3 : Int), (wfS28 s0) → (l1.length ≤ maxLen ∧ ∀ x_ ∈ l1, (Lit.int .u8 x_).wf = true) → ((Lit.int .u8 a2).wf = true) → ((Lit.int .u8 a3).wf = true) → ∃ k, w08_TreeOne.f k s0.f0 s0.f1 s0.f2 s0.f3 s0.f4 l1 a2 a3 = some true
theorem w08_TreeOne.walk (P : w08_TreeOne.Pure) (s0 : S28) (l1 : List Int) (a2 : Int) (a3 : Int) (cs0 : Array Value) (A1 : Option Addr) (c1 : Nat) (w : World) (w0 : wfS28 s0) (w1 : l1.length ≤ maxLen ∧ ∀ x_ ∈ l1, (Lit.int .u8 x_).wf = true) (w2 : (Lit.int .u8 a2).wf = true) (w3 : (Lit.int .u8 a3).wf = true) (K0 : k28.K w s0 cs0.toList) (C1 : Kd.C (Kd.int .u8) w A1 l1.length l1) (hc1 : l1.length ≤ c1) :
    Calls Try.prog 8 #[.agg cs0, .slice A1 l1.length c1, .int .u8 a2, .int .u8 a3] w fun e w' => e = .returned (.bool true) ∧ Below w.heap.size w w' := by
 obtain ⟨k, h⟩ := P s0 l1 a2 a3 w0 w1 w2 w3
 obtain ⟨A0_0, e0_0, A0_1, e0_1, A0_2, e0_2, A0_3, e0_3, A0_4, e0_4, hs0, hl0_0, hC0_0, hl0_1, hC0_1, hl0_2, hC0_2, hl0_3, hC0_3, hl0_4, hC0_4⟩ := k28_open K0
 obtain ⟨L0⟩ := cs0
 obtain rfl : L0 = _ := hs0
 refine (w08_TreeOne.calls k _ _ s0.f0 _ _ s0.f1 _ _ s0.f2 _ _ s0.f3 _ _ s0.f4 _ _ l1 a2 a3 true w hC0_0 hl0_0 hC0_1 hl0_1 hC0_2 hl0_2 hC0_3 hl0_3 hC0_4 hl0_4 C1 hc1 h).mono ?_
 rintro e w' ⟨rfl, hd⟩
 exact ⟨rfl, hd⟩
end Go.Proofs.Ytpdmnineampimaa.Q
