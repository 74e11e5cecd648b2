import Derived.Test.YtpdmnineampimaaZe
import Derived.Test.YtpdmnineampimaaZQx25
import Derived.Test.YtpdmnineampimaaZQx31
import Derived.Test.YtpdmnineampimaaZQx48
set_option linter.unusedVariables false
set_option linter.unusedSimpArgs false
namespace Go.Proofs.Ytpdmnineampimaa.Q
open Go.RowKit Go.Proofs.YtpdmnineampimaaW.PrintWords Go.Proofs.YtpdmnineampimaaW.PrintLast Go.Proofs.YtpdmnineampimaaW.PrintMore
attribute [local go_sem] max2_int min2_int max_two min_two max_three min_three max_four min_four
mutual
def w08_TreePaths.j0 : Nat → Int → Bool → Bool → List (S48) → List (S62) → List (S84) → List (S42) → List (S87) → Option (Bool)
  | 0, _, _, _, _, _, _, _, _ => none
  | k + 1, x1, x5, x19, x443000, x443001, x443002, x443003, x443004 => if x19 = true then (some x5) else (if (x443003.length : Int) = 0 then (none) else ((tree_Path.f x443000 x443001 x443002 x443003 x443004 (Int.tmod (wrap64 (x1)) (x443003.length : Int))).bind fun bt445 => (if bt445.2 = 0 then (if (bt445.1.length : Int) = 0 then (w08_TreePaths.j1 k x5 bt445.1 true x443000 x443001 x443002 x443003 x443004) else (if 0 < (bt445.1.length : Int) then (if 0 ≤ (Int.tmod (wrap64 (x1)) (x443003.length : Int)) then (if (Int.tmod (wrap64 (x1)) (x443003.length : Int)) < (x443003.length : Int) then (if (rd bt445.1 0) = ((rd_T42 x443003 (Int.tmod (wrap64 (x1)) (x443003.length : Int))).f1) then (if 0 ≤ (wrap64 ((bt445.1.length : Int) - 1)) then (if (wrap64 ((bt445.1.length : Int) - 1)) < (bt445.1.length : Int) then (w08_TreePaths.j1 k x5 bt445.1 ((rd bt445.1 (wrap64 ((bt445.1.length : Int) - 1))) != 0) x443000 x443001 x443002 x443003 x443004) else (none)) else (none)) else (w08_TreePaths.j1 k x5 bt445.1 true x443000 x443001 x443002 x443003 x443004)) else (none)) else (none)) else (none))) else (w08_TreePaths.j1 k x5 bt445.1 true x443000 x443001 x443002 x443003 x443004))))
def w08_TreePaths.j1 : Nat → Bool → List Int → Bool → List (S48) → List (S62) → List (S84) → List (S42) → List (S87) → Option (Bool)
  | 0, _, _, _, _, _, _, _, _ => none
  | k + 1, x5, x7, x60, x443000, x443001, x443002, x443003, x443004 => if x60 = true then (some false) else (w08_TreePaths.l0 k x5 x7 1 x443000 x443001 x443002 x443003 x443004)
def w08_TreePaths.l0 : Nat → Bool → List Int → Int → List (S48) → List (S62) → List (S84) → List (S42) → List (S87) → Option (Bool)
  | 0, _, _, _, _, _, _, _, _ => none
  | k + 1, x5, x7, x9, x443000, x443001, x443002, x443003, x443004 => if x9 < (x7.length : Int) then (if 0 ≤ x9 then (if (rd x7 x9) < 0 then (some false) else (if 0 ≤ (wrap64 (x9 - 1)) then (if (wrap64 (x9 - 1)) < (x7.length : Int) then (if (rd x7 x9) ≥ (rd x7 (wrap64 (x9 - 1))) then (some false) else (if 0 ≤ (rd x7 (wrap64 (x9 - 1))) then (if (rd x7 (wrap64 (x9 - 1))) < (x443000.length : Int) then (if ((rd_T48 x443000 (rd x7 (wrap64 (x9 - 1)))).f1) = (rd x7 x9) then (w08_TreePaths.l0 k x5 x7 (wrap64 (x9 + 1)) x443000 x443001 x443002 x443003 x443004) else (some false)) else (none)) else (none))) else (none)) else (none))) else (none)) else (some x5)
end
def w08_TreePaths.f (k : Nat) (l0_0 : List (S48)) (l0_1 : List (S62)) (l0_2 : List (S84)) (l0_3 : List (S42)) (l0_4 : List (S87)) (a1 : Int) : Option (Bool) := (w08_head.f k).bind fun t443 => ((w08_usable.f k l0_0 l0_1 l0_2 l0_3 l0_4).bind fun t444 => (if t444 = true then (w08_TreePaths.j0 k a1 t443 ((l0_3.length : Int) == 0) l0_0 l0_1 l0_2 l0_3 l0_4) else (w08_TreePaths.j0 k a1 t443 true l0_0 l0_1 l0_2 l0_3 l0_4)))
theorem w08_TreePaths.mono_l : ∀ k, (∀ y0 y1 y2 y3 y4 y5 y6 y7, LeO (w08_TreePaths.j0 k y0 y1 y2 y3 y4 y5 y6 y7) (w08_TreePaths.j0 (k + 1) y0 y1 y2 y3 y4 y5 y6 y7)) ∧ (∀ y0 y1 y2 y3 y4 y5 y6 y7, LeO (w08_TreePaths.j1 k y0 y1 y2 y3 y4 y5 y6 y7) (w08_TreePaths.j1 (k + 1) y0 y1 y2 y3 y4 y5 y6 y7)) ∧ (∀ y0 y1 y2 y3 y4 y5 y6 y7, LeO (w08_TreePaths.l0 k y0 y1 y2 y3 y4 y5 y6 y7) (w08_TreePaths.l0 (k + 1) y0 y1 y2 y3 y4 y5 y6 y7))
  | 0 => ⟨fun _ _ _ _ _ _ _ _ r h => by simp [w08_TreePaths.j0] at h, fun _ _ _ _ _ _ _ _ r h => by simp [w08_TreePaths.j1] at h, fun _ _ _ _ _ _ _ _ r h => by simp [w08_TreePaths.l0] at h⟩
  | k + 1 => by
    obtain ⟨ih0, ih1, ih2⟩ := w08_TreePaths.mono_l k
    refine ⟨?_, ?_, ?_⟩
    · intro y0 y1 y2 y3 y4 y5 y6 y7
      unfold w08_TreePaths.j0
      repeat' first
      | (with_reducible exact ih0 _ _ _ _ _ _ _ _)
      | (with_reducible exact ih1 _ _ _ _ _ _ _ _)
      | (with_reducible exact ih2 _ _ _ _ _ _ _ _)
      | (with_reducible exact w08_head.mono _)
      | (with_reducible exact w08_usable.mono _ _ _ _ _ _)
      | (with_reducible exact LeO.refl _)
      | (with_reducible exact LeO.none _)
      | (with_reducible refine LeO.ite ?_ ?_)
      | (with_reducible refine LeO.bind ?_ (fun _ => ?_))
      | exact ih0 _ _ _ _ _ _ _ _
      | exact ih1 _ _ _ _ _ _ _ _
      | exact ih2 _ _ _ _ _ _ _ _
      | exact w08_head.mono _
      | exact w08_usable.mono _ _ _ _ _ _
      | exact LeO.none _
      | refine LeO.ite ?_ ?_
      | refine LeO.bind ?_ (fun _ => ?_)
    · intro y0 y1 y2 y3 y4 y5 y6 y7
      unfold w08_TreePaths.j1
      repeat' first
      | (with_reducible exact ih0 _ _ _ _ _ _ _ _)
      | (with_reducible exact ih1 _ _ _ _ _ _ _ _)
      | (with_reducible exact ih2 _ _ _ _ _ _ _ _)
      | (with_reducible exact w08_head.mono _)
      | (with_reducible exact w08_usable.mono _ _ _ _ _ _)
      | (with_reducible exact LeO.refl _)
      | (with_reducible exact LeO.none _)
      | (with_reducible refine LeO.ite ?_ ?_)
      | (with_reducible refine LeO.bind ?_ (fun _ => ?_))
      | exact ih0 _ _ _ _ _ _ _ _
      | exact ih1 _ _ _ _ _ _ _ _
      | exact ih2 _ _ _ _ _ _ _ _
      | exact w08_head.mono _
      | exact w08_usable.mono _ _ _ _ _ _
      | exact LeO.none _
      | refine LeO.ite ?_ ?_
      | refine LeO.bind ?_ (fun _ => ?_)
    · intro y0 y1 y2 y3 y4 y5 y6 y7
      unfold w08_TreePaths.l0
      repeat' first
      | (with_reducible exact ih0 _ _ _ _ _ _ _ _)
      | (with_reducible exact ih1 _ _ _ _ _ _ _ _)
      | (with_reducible exact ih2 _ _ _ _ _ _ _ _)
      | (with_reducible exact w08_head.mono _)
      | (with_reducible exact w08_usable.mono _ _ _ _ _ _)
      | (with_reducible exact LeO.refl _)
      | (with_reducible exact LeO.none _)
      | (with_reducible refine LeO.ite ?_ ?_)
      | (with_reducible refine LeO.bind ?_ (fun _ => ?_))
      | exact ih0 _ _ _ _ _ _ _ _
      | exact ih1 _ _ _ _ _ _ _ _
      | exact ih2 _ _ _ _ _ _ _ _
      | exact w08_head.mono _
      | exact w08_usable.mono _ _ _ _ _ _
      | exact LeO.none _
      | refine LeO.ite ?_ ?_
      | refine LeO.bind ?_ (fun _ => ?_)
theorem w08_TreePaths.mono : ∀ a0 a1 a2 a3 a4 a5 k, LeO (w08_TreePaths.f k a0 a1 a2 a3 a4 a5) (w08_TreePaths.f (k + 1) a0 a1 a2 a3 a4 a5) := by
  intro a0 a1 a2 a3 a4 a5 k
  obtain ⟨ih0, ih1, ih2⟩ := w08_TreePaths.mono_l k
  unfold w08_TreePaths.f
  repeat' first
      | (with_reducible exact ih0 _ _ _ _ _ _ _ _)
      | (with_reducible exact ih1 _ _ _ _ _ _ _ _)
      | (with_reducible exact ih2 _ _ _ _ _ _ _ _)
      | (with_reducible exact w08_head.mono _)
      | (with_reducible exact w08_usable.mono _ _ _ _ _ _)
      | (with_reducible exact LeO.refl _)
      | (with_reducible exact LeO.none _)
      | (with_reducible refine LeO.ite ?_ ?_)
      | (with_reducible refine LeO.bind ?_ (fun _ => ?_))
      | exact ih0 _ _ _ _ _ _ _ _
      | exact ih1 _ _ _ _ _ _ _ _
      | exact ih2 _ _ _ _ _ _ _ _
      | exact w08_head.mono _
      | exact w08_usable.mono _ _ _ _ _ _
      | exact LeO.none _
      | refine LeO.ite ?_ ?_
      | refine LeO.bind ?_ (fun _ => ?_)
set_option maxHeartbeats 8000000 in
set_option maxRecDepth 100000 in
theorem w08_TreePaths.calls (k : Nat) (A0_0 : Option Addr) (c0_0 : Nat) (l0_0 : List (S48)) (A0_1 : Option Addr) (c0_1 : Nat) (l0_1 : List (S62)) (A0_2 : Option Addr) (c0_2 : Nat) (l0_2 : List (S84)) (A0_3 : Option Addr) (c0_3 : Nat) (l0_3 : List (S42)) (A0_4 : Option Addr) (c0_4 : Nat) (l0_4 : List (S87)) (a1 : Int) (r : Bool) (w : World) (hr0_0 : Kd.C k48 w A0_0 l0_0.length l0_0) (hc0_0 : l0_0.length ≤ c0_0) (hr0_1 : Kd.C k62 w A0_1 l0_1.length l0_1) (hc0_1 : l0_1.length ≤ c0_1) (hr0_2 : Kd.C k84 w A0_2 l0_2.length l0_2) (hc0_2 : l0_2.length ≤ c0_2) (hr0_3 : Kd.C k42 w A0_3 l0_3.length l0_3) (hc0_3 : l0_3.length ≤ c0_3) (hr0_4 : Kd.C k87 w A0_4 l0_4.length l0_4) (hc0_4 : l0_4.length ≤ c0_4) (h : w08_TreePaths.f k l0_0 l0_1 l0_2 l0_3 l0_4 a1 = some r) :
    Calls Try.prog 4 #[.agg #[.slice A0_0 l0_0.length c0_0, .slice A0_1 l0_1.length c0_1, .slice A0_2 l0_2.length c0_2, .slice A0_3 l0_3.length c0_3, .slice A0_4 l0_4.length c0_4], .int .u8 a1] w fun e w' => e = .returned (.bool r) ∧ Below w.heap.size w w' := by
 have hu28 := Try.underlying28
 have HR0_0 := Aside0.mk hr0_0
 have HC0_0 := Aside0.mk hc0_0
 clear hr0_0 hc0_0
 have HR0_1 := Aside0.mk hr0_1
 have HC0_1 := Aside0.mk hc0_1
 clear hr0_1 hc0_1
 have HR0_2 := Aside0.mk hr0_2
 have HC0_2 := Aside0.mk hc0_2
 clear hr0_2 hc0_2
 have HR0_3 := Aside0.mk hr0_3
 have HC0_3 := Aside0.mk hc0_3
 clear hr0_3 hc0_3
 have HR0_4 := Aside0.mk hr0_4
 have HC0_4 := Aside0.mk hc0_4
 clear hr0_4 hc0_4
 have HB := Aside0.mk (Below.refl w.heap.size w)
 have H : ((w08_head.f k).bind fun t443 => ((w08_usable.f k l0_0 l0_1 l0_2 l0_3 l0_4).bind fun t444 => (if t444 = true then (w08_TreePaths.j0 k a1 t443 ((l0_3.length : Int) == 0) l0_0 l0_1 l0_2 l0_3 l0_4) else (w08_TreePaths.j0 k a1 t443 true l0_0 l0_1 l0_2 l0_3 l0_4)))) = some r := h
 clear h
 replace H := Option.bind_eq_some_iff.mp H
 obtain ⟨t443, A30, H⟩ := H
 replace H : ((w08_usable.f k l0_0 l0_1 l0_2 l0_3 l0_4).bind fun t444 => (if t444 = true then (w08_TreePaths.j0 k a1 t443 ((l0_3.length : Int) == 0) l0_0 l0_1 l0_2 l0_3 l0_4) else (w08_TreePaths.j0 k a1 t443 true l0_0 l0_1 l0_2 l0_3 l0_4))) = some r := H
 have A3 := Aside0.mk A30
 clear A30
 have HC4 := Aside0.mk H
 clear H
 go_enter Try.func4, Try.ntmps4
 go_upto_region 2 with (first | ((with_reducible refine gate_dst (N := 2) rfl ?_); (try (refine gate_guard (by rfl) ?_; dsimp only)); refine box_event ?hg (N := 2) ?hd (cs := #[.slice A0_0 l0_0.length c0_0, .slice A0_1 l0_1.length c0_1, .slice A0_2 l0_2.length c0_2, .slice A0_3 l0_3.length c0_3, .slice A0_4 l0_4.length c0_4]) (t := 28) ?hr ?_; (case hd => rfl); (case hg => rfl); (case hr => first | (go_simp; done) | (go_simp; rfl)); intro gb442 hg w5 hbox hb; have n0_ := Aside0.mk (below_step (kB HB) hb); have n1_ := Aside0.mk (hbox); have n2_ := Aside0.mk ((by rw [hg]; exact (below_size (kB HB)) : w.heap.size ≤ gb442)); have n3_ := Aside0.mk ((by rw [hg]; exact (below_size (kB HB)) : w.heap.size ≤ gb442)); clear HB; have HB := n0_; have BK442 := n1_; have GW442 := n2_; have GE442 := n3_; clear n0_ n1_ n2_ n3_; clear hb hbox hg) | (go_at_call 10; (with_reducible refine (w08_head.calls k  t443 _ A3.out).mono ?_); rintro e w6 ⟨rfl, hb⟩; have n0_ := Aside0.mk (blk_below (g := gb442) (o := .cells #[.slice A0_0 l0_0.length c0_0, .slice A0_1 l0_1.length c0_1, .slice A0_2 l0_2.length c0_2, .slice A0_3 l0_3.length c0_3, .slice A0_4 l0_4.length c0_4] 28 (0, 0)) (kK BK442) hb); have n1_ := Aside0.mk (below_step (kB1 HB GE442) hb); clear BK442; clear HB; have BK442 := n0_; have HB := n1_; clear n0_ n1_; (try clear hb); (try clear hb2); (try clear hk); (try clear hi)))
 repeat (go_quiet (first | (go_at_call 10; (with_reducible refine (w08_head.calls k  t443 _ A3.out).mono ?_); rintro e w6 ⟨rfl, hb⟩; have n0_ := Aside0.mk (blk_below (g := gb442) (o := .cells #[.slice A0_0 l0_0.length c0_0, .slice A0_1 l0_1.length c0_1, .slice A0_2 l0_2.length c0_2, .slice A0_3 l0_3.length c0_3, .slice A0_4 l0_4.length c0_4] 28 (0, 0)) (kK BK442) hb); have n1_ := Aside0.mk (below_step (kB1 HB GE442) hb); clear BK442; clear HB; have BK442 := n0_; have HB := n1_; clear n0_ n1_; (try clear hb); (try clear hb2); (try clear hk); (try clear hi))); go_upto_region 2 with (first | (go_at_call 10; (with_reducible refine (w08_head.calls k  t443 _ A3.out).mono ?_); rintro e w6 ⟨rfl, hb⟩; have n0_ := Aside0.mk (blk_below (g := gb442) (o := .cells #[.slice A0_0 l0_0.length c0_0, .slice A0_1 l0_1.length c0_1, .slice A0_2 l0_2.length c0_2, .slice A0_3 l0_3.length c0_3, .slice A0_4 l0_4.length c0_4] 28 (0, 0)) (kK BK442) hb); have n1_ := Aside0.mk (below_step (kB1 HB GE442) hb); clear BK442; clear HB; have BK442 := n0_; have HB := n1_; clear n0_ n1_; (try clear hb); (try clear hb2); (try clear hk); (try clear hi))))
 (try simp only [Act.put, List.setIfInBounds_toArray, List.set_cons_zero, List.set_cons_succ])
 go_cut [19] (fun v19 wc => ∃ (kq : Nat) (x19_3 : Bool), v19 = .bool x19_3 ∧ Aside0 (w08_TreePaths.j0 kq a1 t443 x19_3 l0_0 l0_1 l0_2 l0_3 l0_4 = some r) ∧ Aside0 (kq ≤ k) ∧ Aside0 (wc.heap[gb442]? = some (.cells #[(.slice A0_0 l0_0.length c0_0), (.slice A0_1 l0_1.length c0_1), (.slice A0_2 l0_2.length c0_2), (.slice A0_3 l0_3.length c0_3), (.slice A0_4 l0_4.length c0_4)] 28 (0, 0))) ∧ Aside0 (Below w.heap.size w wc))
 case first =>
  have H := HC4.out
  clear HC4
  replace H := Option.bind_eq_some_iff.mp H
  obtain ⟨t444, A70, H⟩ := H
  replace H : (if t444 = true then (w08_TreePaths.j0 k a1 t443 ((l0_3.length : Int) == 0) l0_0 l0_1 l0_2 l0_3 l0_4) else (w08_TreePaths.j0 k a1 t443 true l0_0 l0_1 l0_2 l0_3 l0_4)) = some r := H
  have A7 := Aside0.mk A70
  clear A70
  by_cases c8 : t444 = true
  rotate_left
  ·replace c8 := Bool.eq_false_iff.mpr c8
   subst c8
   have H1 : (w08_TreePaths.j0 k a1 t443 true l0_0 l0_1 l0_2 l0_3 l0_4) = some r := by rw [if_neg (show ¬ (false = true) by decide)] at H; exact H
   clear H
   have H := H1
   clear H1
   have H' := Aside0.mk H
   clear H
   have hcz12_0 : w6.cell? ⟨gb442, 0, none⟩ = some (.slice A0_0 l0_0.length c0_0) := (blk_cell BK442.out 0).trans rfl
   have hcz12_1 : w6.cell? ⟨gb442, 1, none⟩ = some (.slice A0_1 l0_1.length c0_1) := (blk_cell BK442.out 1).trans rfl
   have hcz12_2 : w6.cell? ⟨gb442, 2, none⟩ = some (.slice A0_2 l0_2.length c0_2) := (blk_cell BK442.out 2).trans rfl
   have hcz12_3 : w6.cell? ⟨gb442, 3, none⟩ = some (.slice A0_3 l0_3.length c0_3) := (blk_cell BK442.out 3).trans rfl
   have hcz12_4 : w6.cell? ⟨gb442, 4, none⟩ = some (.slice A0_4 l0_4.length c0_4) := (blk_cell BK442.out 4).trans rfl
   have hfz12_0 := blk_frozen BK442.out 0
   have hfz12_1 := blk_frozen BK442.out 1
   have hfz12_2 := blk_frozen BK442.out 2
   have hfz12_3 := blk_frozen BK442.out 3
   have hfz12_4 := blk_frozen BK442.out 4
   go_wp2_with (first | (go_at_call 20; (with_reducible refine (w08_usable.calls k _ _ l0_0 _ _ l0_1 _ _ l0_2 _ _ l0_3 _ _ l0_4 false _ ?side1 ?side2 ?side3 ?side4 ?side5 ?side6 ?side7 ?side8 ?side9 ?side10 A7.out).mono ?_); (case side1 => repeat (first | exact (Kd.C_below HR0_0.out HB.out) | (with_reducible refine Kd.C_alloc ?_ _) | (with_reducible refine Kd.C_drewN ?_ _) | (with_reducible refine Kd.C_drew ?_))); (case side2 => exact HC0_0.out); (case side3 => repeat (first | exact (Kd.C_below HR0_1.out HB.out) | (with_reducible refine Kd.C_alloc ?_ _) | (with_reducible refine Kd.C_drewN ?_ _) | (with_reducible refine Kd.C_drew ?_))); (case side4 => exact HC0_1.out); (case side5 => repeat (first | exact (Kd.C_below HR0_2.out HB.out) | (with_reducible refine Kd.C_alloc ?_ _) | (with_reducible refine Kd.C_drewN ?_ _) | (with_reducible refine Kd.C_drew ?_))); (case side6 => exact HC0_2.out); (case side7 => repeat (first | exact (Kd.C_below HR0_3.out HB.out) | (with_reducible refine Kd.C_alloc ?_ _) | (with_reducible refine Kd.C_drewN ?_ _) | (with_reducible refine Kd.C_drew ?_))); (case side8 => exact HC0_3.out); (case side9 => repeat (first | exact (Kd.C_below HR0_4.out HB.out) | (with_reducible refine Kd.C_alloc ?_ _) | (with_reducible refine Kd.C_drewN ?_ _) | (with_reducible refine Kd.C_drew ?_))); (case side10 => exact HC0_4.out); rintro e w13 ⟨rfl, hb⟩; have n0_ := Aside0.mk (blk_below (g := gb442) (o := .cells #[.slice A0_0 l0_0.length c0_0, .slice A0_1 l0_1.length c0_1, .slice A0_2 l0_2.length c0_2, .slice A0_3 l0_3.length c0_3, .slice A0_4 l0_4.length c0_4] 28 (0, 0)) (kK BK442) hb); have n1_ := Aside0.mk (below_step (kB1 HB GE442) hb); clear BK442; clear HB; have BK442 := n0_; have HB := n1_; clear n0_ n1_; (try clear hb); (try clear hb2); (try clear hk); (try clear hi)))
   repeat (go_quiet (first | (go_at_call 20; (with_reducible refine (w08_usable.calls k _ _ l0_0 _ _ l0_1 _ _ l0_2 _ _ l0_3 _ _ l0_4 false _ ?side1 ?side2 ?side3 ?side4 ?side5 ?side6 ?side7 ?side8 ?side9 ?side10 A7.out).mono ?_); (case side1 => repeat (first | exact (Kd.C_below HR0_0.out HB.out) | (with_reducible refine Kd.C_alloc ?_ _) | (with_reducible refine Kd.C_drewN ?_ _) | (with_reducible refine Kd.C_drew ?_))); (case side2 => exact HC0_0.out); (case side3 => repeat (first | exact (Kd.C_below HR0_1.out HB.out) | (with_reducible refine Kd.C_alloc ?_ _) | (with_reducible refine Kd.C_drewN ?_ _) | (with_reducible refine Kd.C_drew ?_))); (case side4 => exact HC0_1.out); (case side5 => repeat (first | exact (Kd.C_below HR0_2.out HB.out) | (with_reducible refine Kd.C_alloc ?_ _) | (with_reducible refine Kd.C_drewN ?_ _) | (with_reducible refine Kd.C_drew ?_))); (case side6 => exact HC0_2.out); (case side7 => repeat (first | exact (Kd.C_below HR0_3.out HB.out) | (with_reducible refine Kd.C_alloc ?_ _) | (with_reducible refine Kd.C_drewN ?_ _) | (with_reducible refine Kd.C_drew ?_))); (case side8 => exact HC0_3.out); (case side9 => repeat (first | exact (Kd.C_below HR0_4.out HB.out) | (with_reducible refine Kd.C_alloc ?_ _) | (with_reducible refine Kd.C_drewN ?_ _) | (with_reducible refine Kd.C_drew ?_))); (case side10 => exact HC0_4.out); rintro e w13 ⟨rfl, hb⟩; have n0_ := Aside0.mk (blk_below (g := gb442) (o := .cells #[.slice A0_0 l0_0.length c0_0, .slice A0_1 l0_1.length c0_1, .slice A0_2 l0_2.length c0_2, .slice A0_3 l0_3.length c0_3, .slice A0_4 l0_4.length c0_4] 28 (0, 0)) (kK BK442) hb); have n1_ := Aside0.mk (below_step (kB1 HB GE442) hb); clear BK442; clear HB; have BK442 := n0_; have HB := n1_; clear n0_ n1_; (try clear hb); (try clear hb2); (try clear hk); (try clear hi))); try go_wp2_with (first | (go_at_call 20; (with_reducible refine (w08_usable.calls k _ _ l0_0 _ _ l0_1 _ _ l0_2 _ _ l0_3 _ _ l0_4 false _ ?side1 ?side2 ?side3 ?side4 ?side5 ?side6 ?side7 ?side8 ?side9 ?side10 A7.out).mono ?_); (case side1 => repeat (first | exact (Kd.C_below HR0_0.out HB.out) | (with_reducible refine Kd.C_alloc ?_ _) | (with_reducible refine Kd.C_drewN ?_ _) | (with_reducible refine Kd.C_drew ?_))); (case side2 => exact HC0_0.out); (case side3 => repeat (first | exact (Kd.C_below HR0_1.out HB.out) | (with_reducible refine Kd.C_alloc ?_ _) | (with_reducible refine Kd.C_drewN ?_ _) | (with_reducible refine Kd.C_drew ?_))); (case side4 => exact HC0_1.out); (case side5 => repeat (first | exact (Kd.C_below HR0_2.out HB.out) | (with_reducible refine Kd.C_alloc ?_ _) | (with_reducible refine Kd.C_drewN ?_ _) | (with_reducible refine Kd.C_drew ?_))); (case side6 => exact HC0_2.out); (case side7 => repeat (first | exact (Kd.C_below HR0_3.out HB.out) | (with_reducible refine Kd.C_alloc ?_ _) | (with_reducible refine Kd.C_drewN ?_ _) | (with_reducible refine Kd.C_drew ?_))); (case side8 => exact HC0_3.out); (case side9 => repeat (first | exact (Kd.C_below HR0_4.out HB.out) | (with_reducible refine Kd.C_alloc ?_ _) | (with_reducible refine Kd.C_drewN ?_ _) | (with_reducible refine Kd.C_drew ?_))); (case side10 => exact HC0_4.out); rintro e w13 ⟨rfl, hb⟩; have n0_ := Aside0.mk (blk_below (g := gb442) (o := .cells #[.slice A0_0 l0_0.length c0_0, .slice A0_1 l0_1.length c0_1, .slice A0_2 l0_2.length c0_2, .slice A0_3 l0_3.length c0_3, .slice A0_4 l0_4.length c0_4] 28 (0, 0)) (kK BK442) hb); have n1_ := Aside0.mk (below_step (kB1 HB GE442) hb); clear BK442; clear HB; have BK442 := n0_; have HB := n1_; clear n0_ n1_; (try clear hb); (try clear hb2); (try clear hk); (try clear hi))))
   go_meet
   case rel => exact ⟨_, (true), tQ, H', ⟨by first | omega | exact Nat.le_refl _⟩, ⟨kK BK442⟩, ⟨kB1 HB GE442⟩⟩
  subst c8
  have H1 : (w08_TreePaths.j0 k a1 t443 ((l0_3.length : Int) == 0) l0_0 l0_1 l0_2 l0_3 l0_4) = some r := by rw [if_pos rfl] at H; exact H
  clear H
  have H := H1
  clear H1
  have H' := Aside0.mk H
  clear H
  have hcz9_0 : w6.cell? ⟨gb442, 0, none⟩ = some (.slice A0_0 l0_0.length c0_0) := (blk_cell BK442.out 0).trans rfl
  have hcz9_1 : w6.cell? ⟨gb442, 1, none⟩ = some (.slice A0_1 l0_1.length c0_1) := (blk_cell BK442.out 1).trans rfl
  have hcz9_2 : w6.cell? ⟨gb442, 2, none⟩ = some (.slice A0_2 l0_2.length c0_2) := (blk_cell BK442.out 2).trans rfl
  have hcz9_3 : w6.cell? ⟨gb442, 3, none⟩ = some (.slice A0_3 l0_3.length c0_3) := (blk_cell BK442.out 3).trans rfl
  have hcz9_4 : w6.cell? ⟨gb442, 4, none⟩ = some (.slice A0_4 l0_4.length c0_4) := (blk_cell BK442.out 4).trans rfl
  have hfz9_0 := blk_frozen BK442.out 0
  have hfz9_1 := blk_frozen BK442.out 1
  have hfz9_2 := blk_frozen BK442.out 2
  have hfz9_3 := blk_frozen BK442.out 3
  have hfz9_4 := blk_frozen BK442.out 4
  go_wp2_with (first | (go_at_call 20; (with_reducible refine (w08_usable.calls k _ _ l0_0 _ _ l0_1 _ _ l0_2 _ _ l0_3 _ _ l0_4 true _ ?side1 ?side2 ?side3 ?side4 ?side5 ?side6 ?side7 ?side8 ?side9 ?side10 A7.out).mono ?_); (case side1 => repeat (first | exact (Kd.C_below HR0_0.out HB.out) | (with_reducible refine Kd.C_alloc ?_ _) | (with_reducible refine Kd.C_drewN ?_ _) | (with_reducible refine Kd.C_drew ?_))); (case side2 => exact HC0_0.out); (case side3 => repeat (first | exact (Kd.C_below HR0_1.out HB.out) | (with_reducible refine Kd.C_alloc ?_ _) | (with_reducible refine Kd.C_drewN ?_ _) | (with_reducible refine Kd.C_drew ?_))); (case side4 => exact HC0_1.out); (case side5 => repeat (first | exact (Kd.C_below HR0_2.out HB.out) | (with_reducible refine Kd.C_alloc ?_ _) | (with_reducible refine Kd.C_drewN ?_ _) | (with_reducible refine Kd.C_drew ?_))); (case side6 => exact HC0_2.out); (case side7 => repeat (first | exact (Kd.C_below HR0_3.out HB.out) | (with_reducible refine Kd.C_alloc ?_ _) | (with_reducible refine Kd.C_drewN ?_ _) | (with_reducible refine Kd.C_drew ?_))); (case side8 => exact HC0_3.out); (case side9 => repeat (first | exact (Kd.C_below HR0_4.out HB.out) | (with_reducible refine Kd.C_alloc ?_ _) | (with_reducible refine Kd.C_drewN ?_ _) | (with_reducible refine Kd.C_drew ?_))); (case side10 => exact HC0_4.out); rintro e w10 ⟨rfl, hb⟩; have n0_ := Aside0.mk (blk_below (g := gb442) (o := .cells #[.slice A0_0 l0_0.length c0_0, .slice A0_1 l0_1.length c0_1, .slice A0_2 l0_2.length c0_2, .slice A0_3 l0_3.length c0_3, .slice A0_4 l0_4.length c0_4] 28 (0, 0)) (kK BK442) hb); have n1_ := Aside0.mk (below_step (kB1 HB GE442) hb); clear BK442; clear HB; have BK442 := n0_; have HB := n1_; clear n0_ n1_; (try clear hb); (try clear hb2); (try clear hk); (try clear hi); have hcz11_0 : w10.cell? ⟨gb442, 0, none⟩ = some (.slice A0_0 l0_0.length c0_0) := (blk_cell BK442.out 0).trans rfl; have hcz11_1 : w10.cell? ⟨gb442, 1, none⟩ = some (.slice A0_1 l0_1.length c0_1) := (blk_cell BK442.out 1).trans rfl; have hcz11_2 : w10.cell? ⟨gb442, 2, none⟩ = some (.slice A0_2 l0_2.length c0_2) := (blk_cell BK442.out 2).trans rfl; have hcz11_3 : w10.cell? ⟨gb442, 3, none⟩ = some (.slice A0_3 l0_3.length c0_3) := (blk_cell BK442.out 3).trans rfl; have hcz11_4 : w10.cell? ⟨gb442, 4, none⟩ = some (.slice A0_4 l0_4.length c0_4) := (blk_cell BK442.out 4).trans rfl; have hfz11_0 := blk_frozen BK442.out 0; have hfz11_1 := blk_frozen BK442.out 1; have hfz11_2 := blk_frozen BK442.out 2; have hfz11_3 := blk_frozen BK442.out 3; have hfz11_4 := blk_frozen BK442.out 4))
  repeat (go_quiet (first | (go_at_call 20; (with_reducible refine (w08_usable.calls k _ _ l0_0 _ _ l0_1 _ _ l0_2 _ _ l0_3 _ _ l0_4 true _ ?side1 ?side2 ?side3 ?side4 ?side5 ?side6 ?side7 ?side8 ?side9 ?side10 A7.out).mono ?_); (case side1 => repeat (first | exact (Kd.C_below HR0_0.out HB.out) | (with_reducible refine Kd.C_alloc ?_ _) | (with_reducible refine Kd.C_drewN ?_ _) | (with_reducible refine Kd.C_drew ?_))); (case side2 => exact HC0_0.out); (case side3 => repeat (first | exact (Kd.C_below HR0_1.out HB.out) | (with_reducible refine Kd.C_alloc ?_ _) | (with_reducible refine Kd.C_drewN ?_ _) | (with_reducible refine Kd.C_drew ?_))); (case side4 => exact HC0_1.out); (case side5 => repeat (first | exact (Kd.C_below HR0_2.out HB.out) | (with_reducible refine Kd.C_alloc ?_ _) | (with_reducible refine Kd.C_drewN ?_ _) | (with_reducible refine Kd.C_drew ?_))); (case side6 => exact HC0_2.out); (case side7 => repeat (first | exact (Kd.C_below HR0_3.out HB.out) | (with_reducible refine Kd.C_alloc ?_ _) | (with_reducible refine Kd.C_drewN ?_ _) | (with_reducible refine Kd.C_drew ?_))); (case side8 => exact HC0_3.out); (case side9 => repeat (first | exact (Kd.C_below HR0_4.out HB.out) | (with_reducible refine Kd.C_alloc ?_ _) | (with_reducible refine Kd.C_drewN ?_ _) | (with_reducible refine Kd.C_drew ?_))); (case side10 => exact HC0_4.out); rintro e w10 ⟨rfl, hb⟩; have n0_ := Aside0.mk (blk_below (g := gb442) (o := .cells #[.slice A0_0 l0_0.length c0_0, .slice A0_1 l0_1.length c0_1, .slice A0_2 l0_2.length c0_2, .slice A0_3 l0_3.length c0_3, .slice A0_4 l0_4.length c0_4] 28 (0, 0)) (kK BK442) hb); have n1_ := Aside0.mk (below_step (kB1 HB GE442) hb); clear BK442; clear HB; have BK442 := n0_; have HB := n1_; clear n0_ n1_; (try clear hb); (try clear hb2); (try clear hk); (try clear hi); have hcz11_0 : w10.cell? ⟨gb442, 0, none⟩ = some (.slice A0_0 l0_0.length c0_0) := (blk_cell BK442.out 0).trans rfl; have hcz11_1 : w10.cell? ⟨gb442, 1, none⟩ = some (.slice A0_1 l0_1.length c0_1) := (blk_cell BK442.out 1).trans rfl; have hcz11_2 : w10.cell? ⟨gb442, 2, none⟩ = some (.slice A0_2 l0_2.length c0_2) := (blk_cell BK442.out 2).trans rfl; have hcz11_3 : w10.cell? ⟨gb442, 3, none⟩ = some (.slice A0_3 l0_3.length c0_3) := (blk_cell BK442.out 3).trans rfl; have hcz11_4 : w10.cell? ⟨gb442, 4, none⟩ = some (.slice A0_4 l0_4.length c0_4) := (blk_cell BK442.out 4).trans rfl; have hfz11_0 := blk_frozen BK442.out 0; have hfz11_1 := blk_frozen BK442.out 1; have hfz11_2 := blk_frozen BK442.out 2; have hfz11_3 := blk_frozen BK442.out 3; have hfz11_4 := blk_frozen BK442.out 4)); try go_wp2_with (first | (go_at_call 20; (with_reducible refine (w08_usable.calls k _ _ l0_0 _ _ l0_1 _ _ l0_2 _ _ l0_3 _ _ l0_4 true _ ?side1 ?side2 ?side3 ?side4 ?side5 ?side6 ?side7 ?side8 ?side9 ?side10 A7.out).mono ?_); (case side1 => repeat (first | exact (Kd.C_below HR0_0.out HB.out) | (with_reducible refine Kd.C_alloc ?_ _) | (with_reducible refine Kd.C_drewN ?_ _) | (with_reducible refine Kd.C_drew ?_))); (case side2 => exact HC0_0.out); (case side3 => repeat (first | exact (Kd.C_below HR0_1.out HB.out) | (with_reducible refine Kd.C_alloc ?_ _) | (with_reducible refine Kd.C_drewN ?_ _) | (with_reducible refine Kd.C_drew ?_))); (case side4 => exact HC0_1.out); (case side5 => repeat (first | exact (Kd.C_below HR0_2.out HB.out) | (with_reducible refine Kd.C_alloc ?_ _) | (with_reducible refine Kd.C_drewN ?_ _) | (with_reducible refine Kd.C_drew ?_))); (case side6 => exact HC0_2.out); (case side7 => repeat (first | exact (Kd.C_below HR0_3.out HB.out) | (with_reducible refine Kd.C_alloc ?_ _) | (with_reducible refine Kd.C_drewN ?_ _) | (with_reducible refine Kd.C_drew ?_))); (case side8 => exact HC0_3.out); (case side9 => repeat (first | exact (Kd.C_below HR0_4.out HB.out) | (with_reducible refine Kd.C_alloc ?_ _) | (with_reducible refine Kd.C_drewN ?_ _) | (with_reducible refine Kd.C_drew ?_))); (case side10 => exact HC0_4.out); rintro e w10 ⟨rfl, hb⟩; have n0_ := Aside0.mk (blk_below (g := gb442) (o := .cells #[.slice A0_0 l0_0.length c0_0, .slice A0_1 l0_1.length c0_1, .slice A0_2 l0_2.length c0_2, .slice A0_3 l0_3.length c0_3, .slice A0_4 l0_4.length c0_4] 28 (0, 0)) (kK BK442) hb); have n1_ := Aside0.mk (below_step (kB1 HB GE442) hb); clear BK442; clear HB; have BK442 := n0_; have HB := n1_; clear n0_ n1_; (try clear hb); (try clear hb2); (try clear hk); (try clear hi); have hcz11_0 : w10.cell? ⟨gb442, 0, none⟩ = some (.slice A0_0 l0_0.length c0_0) := (blk_cell BK442.out 0).trans rfl; have hcz11_1 : w10.cell? ⟨gb442, 1, none⟩ = some (.slice A0_1 l0_1.length c0_1) := (blk_cell BK442.out 1).trans rfl; have hcz11_2 : w10.cell? ⟨gb442, 2, none⟩ = some (.slice A0_2 l0_2.length c0_2) := (blk_cell BK442.out 2).trans rfl; have hcz11_3 : w10.cell? ⟨gb442, 3, none⟩ = some (.slice A0_3 l0_3.length c0_3) := (blk_cell BK442.out 3).trans rfl; have hcz11_4 : w10.cell? ⟨gb442, 4, none⟩ = some (.slice A0_4 l0_4.length c0_4) := (blk_cell BK442.out 4).trans rfl; have hfz11_0 := blk_frozen BK442.out 0; have hfz11_1 := blk_frozen BK442.out 1; have hfz11_2 := blk_frozen BK442.out 2; have hfz11_3 := blk_frozen BK442.out 3; have hfz11_4 := blk_frozen BK442.out 4)))
  go_meet
  case rel => exact ⟨_, (((l0_3.length : Int) == 0)), tQ, H', ⟨by first | omega | exact Nat.le_refl _⟩, ⟨kK BK442⟩, ⟨kB1 HB GE442⟩⟩
 case rest =>
  clear HC4
  try clear hcz11_0 hcz11_1 hcz11_2 hcz11_3 hcz11_4 hfz11_0 hfz11_1 hfz11_2 hfz11_3 hfz11_4
  try clear hcz12_0 hcz12_1 hcz12_2 hcz12_3 hcz12_4 hfz12_0 hfz12_1 hfz12_2 hfz12_3 hfz12_4
  try clear hcz9_0 hcz9_1 hcz9_2 hcz9_3 hcz9_4 hfz9_0 hfz9_1 hfz9_2 hfz9_3 hfz9_4
  try clear p2
  try clear c4
  try clear c8
  obtain ⟨kq, x19_3, rfl, HA, HJ3, BK442, HB⟩ := hcut
  cases kq with
  | zero => exact absurd HA.out (by simp [w08_TreePaths.j0])
  | succ kj3 =>
   have H := HA.out
   clear HA
   simp only [w08_TreePaths.j0] at H
   by_cases c14 : x19_3 = true
   ·subst c14
    have H1 : (some t443) = some r := by rw [if_pos rfl] at H; exact H
    clear H
    have H := H1
    clear H1
    obtain rfl := Option.some.inj H
    go_wp2
    repeat (go_quiet (fail); try go_wp2)
    go_ret
    exact ⟨by first | rfl | (simp [errW_none, errW_some] <;> rfl) | (simp [*, errW_none, errW_some] <;> rfl), kB1 HB GE442⟩
   replace c14 := Bool.eq_false_iff.mpr c14
   subst c14
   have H1 : (if (l0_3.length : Int) = 0 then (none) else ((tree_Path.f l0_0 l0_1 l0_2 l0_3 l0_4 (Int.tmod (wrap64 (a1)) (l0_3.length : Int))).bind fun bt445 => (if bt445.2 = 0 then (if (bt445.1.length : Int) = 0 then (w08_TreePaths.j1 kj3 t443 bt445.1 true l0_0 l0_1 l0_2 l0_3 l0_4) else (if 0 < (bt445.1.length : Int) then (if 0 ≤ (Int.tmod (wrap64 (a1)) (l0_3.length : Int)) then (if (Int.tmod (wrap64 (a1)) (l0_3.length : Int)) < (l0_3.length : Int) then (if (rd bt445.1 0) = ((rd_T42 l0_3 (Int.tmod (wrap64 (a1)) (l0_3.length : Int))).f1) then (if 0 ≤ (wrap64 ((bt445.1.length : Int) - 1)) then (if (wrap64 ((bt445.1.length : Int) - 1)) < (bt445.1.length : Int) then (w08_TreePaths.j1 kj3 t443 bt445.1 ((rd bt445.1 (wrap64 ((bt445.1.length : Int) - 1))) != 0) l0_0 l0_1 l0_2 l0_3 l0_4) else (none)) else (none)) else (w08_TreePaths.j1 kj3 t443 bt445.1 true l0_0 l0_1 l0_2 l0_3 l0_4)) else (none)) else (none)) else (none))) else (w08_TreePaths.j1 kj3 t443 bt445.1 true l0_0 l0_1 l0_2 l0_3 l0_4)))) = some r := by rw [if_neg (show ¬ (false = true) by decide)] at H; exact H
   clear H
   have H := H1
   clear H1
   by_cases c15 : (l0_3.length : Int) = 0
   ·rw [if_pos c15] at H
    exact absurd H (by simp)
   rw [if_neg c15] at H
   have c15b0 : ((l0_3.length : Int) == 0) = false := beq_eq_false_iff_ne.mpr c15
   have c15b1 : ((l0_3.length : Int) != 0) = true := bne_iff_ne.mpr c15
   have c15b2 : ¬ (l0_3 = []) := fun h_ => c15 (by rw [h_]; rfl)
   replace H := Option.bind_eq_some_iff.mp H
   obtain ⟨⟨t445, t448⟩, A160, H⟩ := H
   replace H : (if t448 = 0 then (if (t445.length : Int) = 0 then (w08_TreePaths.j1 kj3 t443 t445 true l0_0 l0_1 l0_2 l0_3 l0_4) else (if 0 < (t445.length : Int) then (if 0 ≤ (Int.tmod (wrap64 (a1)) (l0_3.length : Int)) then (if (Int.tmod (wrap64 (a1)) (l0_3.length : Int)) < (l0_3.length : Int) then (if (rd t445 0) = ((rd_T42 l0_3 (Int.tmod (wrap64 (a1)) (l0_3.length : Int))).f1) then (if 0 ≤ (wrap64 ((t445.length : Int) - 1)) then (if (wrap64 ((t445.length : Int) - 1)) < (t445.length : Int) then (w08_TreePaths.j1 kj3 t443 t445 ((rd t445 (wrap64 ((t445.length : Int) - 1))) != 0) l0_0 l0_1 l0_2 l0_3 l0_4) else (none)) else (none)) else (w08_TreePaths.j1 kj3 t443 t445 true l0_0 l0_1 l0_2 l0_3 l0_4)) else (none)) else (none)) else (none))) else (w08_TreePaths.j1 kj3 t443 t445 true l0_0 l0_1 l0_2 l0_3 l0_4)) = some r := H
   have A16 := Aside0.mk A160
   clear A160
   have HC17 := Aside0.mk H
   clear H
   have hcz18_0 : wc.cell? ⟨gb442, 0, none⟩ = some (.slice A0_0 l0_0.length c0_0) := (blk_cell BK442.out 0).trans rfl
   have hcz18_1 : wc.cell? ⟨gb442, 1, none⟩ = some (.slice A0_1 l0_1.length c0_1) := (blk_cell BK442.out 1).trans rfl
   have hcz18_2 : wc.cell? ⟨gb442, 2, none⟩ = some (.slice A0_2 l0_2.length c0_2) := (blk_cell BK442.out 2).trans rfl
   have hcz18_3 : wc.cell? ⟨gb442, 3, none⟩ = some (.slice A0_3 l0_3.length c0_3) := (blk_cell BK442.out 3).trans rfl
   have hcz18_4 : wc.cell? ⟨gb442, 4, none⟩ = some (.slice A0_4 l0_4.length c0_4) := (blk_cell BK442.out 4).trans rfl
   have hfz18_0 := blk_frozen BK442.out 0
   have hfz18_1 := blk_frozen BK442.out 1
   have hfz18_2 := blk_frozen BK442.out 2
   have hfz18_3 := blk_frozen BK442.out 3
   have hfz18_4 := blk_frozen BK442.out 4
   go_upto_region 6 with (first | (go_at_call 12; (with_reducible refine (tree_Path.calls _ _ l0_0 _ _ l0_1 _ _ l0_2 _ _ l0_3 _ _ l0_4 (Int.tmod (wrap64 (a1)) (l0_3.length : Int)) t445 t448 _ ?side1 ?side2 ?side3 ?side4 ?side5 ?side6 ?side7 ?side8 ?side9 ?side10 A16.out).mono ?_); (case side1 => repeat (first | exact (Kd.C_below HR0_0.out HB.out) | (with_reducible refine Kd.C_alloc ?_ _) | (with_reducible refine Kd.C_drewN ?_ _) | (with_reducible refine Kd.C_drew ?_))); (case side2 => exact HC0_0.out); (case side3 => repeat (first | exact (Kd.C_below HR0_1.out HB.out) | (with_reducible refine Kd.C_alloc ?_ _) | (with_reducible refine Kd.C_drewN ?_ _) | (with_reducible refine Kd.C_drew ?_))); (case side4 => exact HC0_1.out); (case side5 => repeat (first | exact (Kd.C_below HR0_2.out HB.out) | (with_reducible refine Kd.C_alloc ?_ _) | (with_reducible refine Kd.C_drewN ?_ _) | (with_reducible refine Kd.C_drew ?_))); (case side6 => exact HC0_2.out); (case side7 => repeat (first | exact (Kd.C_below HR0_3.out HB.out) | (with_reducible refine Kd.C_alloc ?_ _) | (with_reducible refine Kd.C_drewN ?_ _) | (with_reducible refine Kd.C_drew ?_))); (case side8 => exact HC0_3.out); (case side9 => repeat (first | exact (Kd.C_below HR0_4.out HB.out) | (with_reducible refine Kd.C_alloc ?_ _) | (with_reducible refine Kd.C_drewN ?_ _) | (with_reducible refine Kd.C_drew ?_))); (case side10 => exact HC0_4.out); rintro e w19 ⟨v446, rfl, ho0, hb⟩; have n0_ := Aside0.mk (Kd.R_lower ho0 (below_size (kB1 HB GE442))); have n1_ := Aside0.mk (blk_below (g := gb442) (o := .cells #[.slice A0_0 l0_0.length c0_0, .slice A0_1 l0_1.length c0_1, .slice A0_2 l0_2.length c0_2, .slice A0_3 l0_3.length c0_3, .slice A0_4 l0_4.length c0_4] 28 (0, 0)) (kK BK442) hb); have n2_ := Aside0.mk (below_step (kB1 HB GE442) hb); clear BK442; clear HB; have HO447 := n0_; have BK442 := n1_; have HB := n2_; clear n0_ n1_ n2_; (try clear hb); (try clear hb2); (try clear hk); (try clear hi); (try clear ho0)))
   repeat (go_quiet (first | (go_at_call 12; (with_reducible refine (tree_Path.calls _ _ l0_0 _ _ l0_1 _ _ l0_2 _ _ l0_3 _ _ l0_4 (Int.tmod (wrap64 (a1)) (l0_3.length : Int)) t445 t448 _ ?side1 ?side2 ?side3 ?side4 ?side5 ?side6 ?side7 ?side8 ?side9 ?side10 A16.out).mono ?_); (case side1 => repeat (first | exact (Kd.C_below HR0_0.out HB.out) | (with_reducible refine Kd.C_alloc ?_ _) | (with_reducible refine Kd.C_drewN ?_ _) | (with_reducible refine Kd.C_drew ?_))); (case side2 => exact HC0_0.out); (case side3 => repeat (first | exact (Kd.C_below HR0_1.out HB.out) | (with_reducible refine Kd.C_alloc ?_ _) | (with_reducible refine Kd.C_drewN ?_ _) | (with_reducible refine Kd.C_drew ?_))); (case side4 => exact HC0_1.out); (case side5 => repeat (first | exact (Kd.C_below HR0_2.out HB.out) | (with_reducible refine Kd.C_alloc ?_ _) | (with_reducible refine Kd.C_drewN ?_ _) | (with_reducible refine Kd.C_drew ?_))); (case side6 => exact HC0_2.out); (case side7 => repeat (first | exact (Kd.C_below HR0_3.out HB.out) | (with_reducible refine Kd.C_alloc ?_ _) | (with_reducible refine Kd.C_drewN ?_ _) | (with_reducible refine Kd.C_drew ?_))); (case side8 => exact HC0_3.out); (case side9 => repeat (first | exact (Kd.C_below HR0_4.out HB.out) | (with_reducible refine Kd.C_alloc ?_ _) | (with_reducible refine Kd.C_drewN ?_ _) | (with_reducible refine Kd.C_drew ?_))); (case side10 => exact HC0_4.out); rintro e w19 ⟨v446, rfl, ho0, hb⟩; have n0_ := Aside0.mk (Kd.R_lower ho0 (below_size (kB1 HB GE442))); have n1_ := Aside0.mk (blk_below (g := gb442) (o := .cells #[.slice A0_0 l0_0.length c0_0, .slice A0_1 l0_1.length c0_1, .slice A0_2 l0_2.length c0_2, .slice A0_3 l0_3.length c0_3, .slice A0_4 l0_4.length c0_4] 28 (0, 0)) (kK BK442) hb); have n2_ := Aside0.mk (below_step (kB1 HB GE442) hb); clear BK442; clear HB; have HO447 := n0_; have BK442 := n1_; have HB := n2_; clear n0_ n1_ n2_; (try clear hb); (try clear hb2); (try clear hk); (try clear hi); (try clear ho0))); go_upto_region 6 with (first | (go_at_call 12; (with_reducible refine (tree_Path.calls _ _ l0_0 _ _ l0_1 _ _ l0_2 _ _ l0_3 _ _ l0_4 (Int.tmod (wrap64 (a1)) (l0_3.length : Int)) t445 t448 _ ?side1 ?side2 ?side3 ?side4 ?side5 ?side6 ?side7 ?side8 ?side9 ?side10 A16.out).mono ?_); (case side1 => repeat (first | exact (Kd.C_below HR0_0.out HB.out) | (with_reducible refine Kd.C_alloc ?_ _) | (with_reducible refine Kd.C_drewN ?_ _) | (with_reducible refine Kd.C_drew ?_))); (case side2 => exact HC0_0.out); (case side3 => repeat (first | exact (Kd.C_below HR0_1.out HB.out) | (with_reducible refine Kd.C_alloc ?_ _) | (with_reducible refine Kd.C_drewN ?_ _) | (with_reducible refine Kd.C_drew ?_))); (case side4 => exact HC0_1.out); (case side5 => repeat (first | exact (Kd.C_below HR0_2.out HB.out) | (with_reducible refine Kd.C_alloc ?_ _) | (with_reducible refine Kd.C_drewN ?_ _) | (with_reducible refine Kd.C_drew ?_))); (case side6 => exact HC0_2.out); (case side7 => repeat (first | exact (Kd.C_below HR0_3.out HB.out) | (with_reducible refine Kd.C_alloc ?_ _) | (with_reducible refine Kd.C_drewN ?_ _) | (with_reducible refine Kd.C_drew ?_))); (case side8 => exact HC0_3.out); (case side9 => repeat (first | exact (Kd.C_below HR0_4.out HB.out) | (with_reducible refine Kd.C_alloc ?_ _) | (with_reducible refine Kd.C_drewN ?_ _) | (with_reducible refine Kd.C_drew ?_))); (case side10 => exact HC0_4.out); rintro e w19 ⟨v446, rfl, ho0, hb⟩; have n0_ := Aside0.mk (Kd.R_lower ho0 (below_size (kB1 HB GE442))); have n1_ := Aside0.mk (blk_below (g := gb442) (o := .cells #[.slice A0_0 l0_0.length c0_0, .slice A0_1 l0_1.length c0_1, .slice A0_2 l0_2.length c0_2, .slice A0_3 l0_3.length c0_3, .slice A0_4 l0_4.length c0_4] 28 (0, 0)) (kK BK442) hb); have n2_ := Aside0.mk (below_step (kB1 HB GE442) hb); clear BK442; clear HB; have HO447 := n0_; have BK442 := n1_; have HB := n2_; clear n0_ n1_ n2_; (try clear hb); (try clear hb2); (try clear hk); (try clear hi); (try clear ho0))))
   (try simp only [Act.put, List.setIfInBounds_toArray, List.set_cons_zero, List.set_cons_succ])
   go_cut [60] (fun v60 wc => ∃ (kq : Nat) (x60_16 : Bool), v60 = .bool x60_16 ∧ Aside0 (w08_TreePaths.j1 kq t443 t445 x60_16 l0_0 l0_1 l0_2 l0_3 l0_4 = some r) ∧ Aside0 (kq ≤ kj3) ∧ Aside0 (Kd.R (Kd.int .i64) 3 wc w.heap.size (fun _ => True) v446 t445) ∧ Aside0 (wc.heap[gb442]? = some (.cells #[(.slice A0_0 l0_0.length c0_0), (.slice A0_1 l0_1.length c0_1), (.slice A0_2 l0_2.length c0_2), (.slice A0_3 l0_3.length c0_3), (.slice A0_4 l0_4.length c0_4)] 28 (0, 0))) ∧ Aside0 (Below w.heap.size w wc))
   case first =>
    have H := HC17.out
    clear HC17
    by_cases c20 : t448 = 0
    rotate_left
    ·rw [if_neg c20] at H
     have c20b0 : (t448 == 0) = false := beq_eq_false_iff_ne.mpr c20
     have c20b1 : (t448 != 0) = true := bne_iff_ne.mpr c20
     (first | rw [c20b0] | (simp only [i64_w, i32_w]; rw [c20b0]) | skip)
     have H' := Aside0.mk H
     clear H
     go_wp2
     repeat (go_quiet (fail); try go_wp2)
     go_meet
     case rel => exact ⟨_, (true), tQ, H', ⟨by have := HJ3.out; first | omega | exact Nat.le_refl _⟩, ⟨kR HO447⟩, ⟨kK BK442⟩, ⟨kB1 HB GE442⟩⟩
    rw [if_pos c20] at H
    have c20b0 : (t448 == 0) = true := beq_iff_eq.mpr c20
    have c20b1 : (t448 != 0) = false := bne_eq_false_iff_eq.mpr c20
    clear c20
    (first | rw [c20b0] | (simp only [i64_w, i32_w]; rw [c20b0]) | skip)
    by_cases c21 : (t445.length : Int) = 0
    ·rw [if_pos c21] at H
     have c21b0 : ((t445.length : Int) == 0) = true := beq_iff_eq.mpr c21
     have c21b1 : ((t445.length : Int) != 0) = false := bne_eq_false_iff_eq.mpr c21
     clear c21
     have H' := Aside0.mk H
     clear H
     obtain ⟨Ao22, co22, eo22⟩ := Kd.R_slice HO447.out
     subst eo22
     go_wp2
     repeat (go_quiet (fail); try go_wp2)
     go_meet
     case rel => exact ⟨_, (true), tQ, H', ⟨by have := HJ3.out; first | omega | exact Nat.le_refl _⟩, ⟨kR HO447⟩, ⟨kK BK442⟩, ⟨kB1 HB GE442⟩⟩
    rw [if_neg c21] at H
    have c21b0 : ((t445.length : Int) == 0) = false := beq_eq_false_iff_ne.mpr c21
    have c21b1 : ((t445.length : Int) != 0) = true := bne_iff_ne.mpr c21
    have c21b2 : ¬ (t445 = []) := fun h_ => c21 (by rw [h_]; rfl)
    by_cases c23 : 0 < (t445.length : Int)
    rotate_left
    ·rw [if_neg c23] at H
     exact absurd H (by simp)
    rw [if_pos c23] at H
    have c23b0 : decide (0 < (t445.length : Int)) = true := decide_eq_true c23
    have c23b1 : decide (0 < t445.length) = true := decide_eq_true (by omega)
    clear c23
    obtain ⟨ji24, hji24⟩ : ∃ j_ : Int, (Int.tmod (wrap64 (a1)) (l0_3.length : Int)) = j_ := ⟨_, rfl⟩
    replace H : (if 0 ≤ (ji24) then (if (ji24) < (l0_3.length : Int) then (if (rd t445 0) = ((rd_T42 l0_3 (ji24)).f1) then (if 0 ≤ (wrap64 ((t445.length : Int) - 1)) then (if (wrap64 ((t445.length : Int) - 1)) < (t445.length : Int) then (w08_TreePaths.j1 kj3 t443 t445 ((rd t445 (wrap64 ((t445.length : Int) - 1))) != 0) l0_0 l0_1 l0_2 l0_3 l0_4) else (none)) else (none)) else (w08_TreePaths.j1 kj3 t443 t445 true l0_0 l0_1 l0_2 l0_3 l0_4)) else (none)) else (none)) = some r := by first | (rw [hji24] at H; exact H) | (simp only [hji24] at H ⊢; exact H)
    by_cases c25 : 0 ≤ (ji24)
    rotate_left
    ·rw [if_neg c25] at H
     exact absurd H (by simp)
    rw [if_pos c25] at H
    have c25b0 : decide (0 ≤ (ji24)) = true := decide_eq_true c25
    clear c25
    by_cases c26 : (ji24) < (l0_3.length : Int)
    rotate_left
    ·rw [if_neg c26] at H
     exact absurd H (by simp)
    rw [if_pos c26] at H
    have c26b0 : decide ((ji24) < (l0_3.length : Int)) = true := decide_eq_true c26
    clear c26
    by_cases c27 : (rd t445 0) = ((rd_T42 l0_3 (ji24)).f1)
    rotate_left
    ·rw [if_neg c27] at H
     have c27b0 : ((rd t445 0) == ((rd_T42 l0_3 (ji24)).f1)) = false := beq_eq_false_iff_ne.mpr c27
     have c27b1 : ((rd t445 0) != ((rd_T42 l0_3 (ji24)).f1)) = true := bne_iff_ne.mpr c27
     have H' := Aside0.mk H
     clear H
     obtain ⟨Ao33, co33, eo33⟩ := Kd.R_slice HO447.out
     subst eo33
     have p449 : 0 ≤ (0 : Int) := (by omega)
     have q449 : 0 < (t445.length : Int) := tD
     obtain ⟨ad449, e449, hx449_0⟩ := Kd.at_int (Kd.R_reads' HO447.out).2.2 0 p449 q449
     cases e449
     have qi449 : (0 < t445.length) = True := eq_true (by omega)
     (try rw [show ((0 : Int)).toNat = 0 from rfl] at hx449_0)
     (try rw [Addr.add_zero'] at hx449_0)
     replace p449 := eq_true p449
     replace q449 := eq_true q449
     have hcz34_0 : w19.cell? ⟨gb442, 0, none⟩ = some (.slice A0_0 l0_0.length c0_0) := (blk_cell BK442.out 0).trans rfl
     have hcz34_1 : w19.cell? ⟨gb442, 1, none⟩ = some (.slice A0_1 l0_1.length c0_1) := (blk_cell BK442.out 1).trans rfl
     have hcz34_2 : w19.cell? ⟨gb442, 2, none⟩ = some (.slice A0_2 l0_2.length c0_2) := (blk_cell BK442.out 2).trans rfl
     have hcz34_3 : w19.cell? ⟨gb442, 3, none⟩ = some (.slice A0_3 l0_3.length c0_3) := (blk_cell BK442.out 3).trans rfl
     have hcz34_4 : w19.cell? ⟨gb442, 4, none⟩ = some (.slice A0_4 l0_4.length c0_4) := (blk_cell BK442.out 4).trans rfl
     have hfz34_0 := blk_frozen BK442.out 0
     have hfz34_1 := blk_frozen BK442.out 1
     have hfz34_2 := blk_frozen BK442.out 2
     have hfz34_3 := blk_frozen BK442.out 3
     have hfz34_4 := blk_frozen BK442.out 4
     have p450 : 0 ≤ ((ji24) : Int) := tD
     have q450 : (ji24) < (l0_3.length : Int) := tD
     obtain ⟨ad450, e450, hx450_0, hx450_1, hx450_2, hx450_3, hx450_4, hx450_5, hx450_6, hx450_7⟩ := at_T42 HR0_3.out (ji24) p450 q450
     cases e450
     replace hx450_0 := cB HB hx450_0
     replace hx450_1 := cB HB hx450_1
     replace hx450_2 := cB HB hx450_2
     replace hx450_3 := cB HB hx450_3
     replace hx450_4 := cB HB hx450_4
     replace hx450_5 := cB HB hx450_5
     replace hx450_6 := cB HB hx450_6
     replace hx450_7 := cB HB hx450_7
     replace p450 := eq_true p450
     replace q450 := eq_true q450
     go_wp2
     repeat (go_quiet (fail); try go_wp2)
     (try simp only [← hji24])
     go_meet
     case rel => exact ⟨_, (true), tQ, H', ⟨by have := HJ3.out; first | omega | exact Nat.le_refl _⟩, ⟨kR HO447⟩, ⟨kK BK442⟩, ⟨kB1 HB GE442⟩⟩
    rw [if_pos c27] at H
    have c27b0 : ((rd t445 0) == ((rd_T42 l0_3 (ji24)).f1)) = true := beq_iff_eq.mpr c27
    have c27b1 : ((rd t445 0) != ((rd_T42 l0_3 (ji24)).f1)) = false := bne_eq_false_iff_eq.mpr c27
    clear c27
    obtain ⟨ji28, hji28⟩ : ∃ j_ : Int, (wrap64 ((t445.length : Int) - 1)) = j_ := ⟨_, rfl⟩
    replace H : (if 0 ≤ (ji28) then (if (ji28) < (t445.length : Int) then (w08_TreePaths.j1 kj3 t443 t445 ((rd t445 (ji28)) != 0) l0_0 l0_1 l0_2 l0_3 l0_4) else (none)) else (none)) = some r := by first | (rw [hji28] at H; exact H) | (simp only [hji28] at H ⊢; exact H)
    have hji28w : (IntKind.i64.wrap ((t445.length : Int) - 1)) = ji28 := (i64_w _).trans hji28
    by_cases c29 : 0 ≤ (ji28)
    rotate_left
    ·rw [if_neg c29] at H
     exact absurd H (by simp)
    rw [if_pos c29] at H
    have c29b0 : decide (0 ≤ (ji28)) = true := decide_eq_true c29
    clear c29
    by_cases c30 : (ji28) < (t445.length : Int)
    rotate_left
    ·rw [if_neg c30] at H
     exact absurd H (by simp)
    rw [if_pos c30] at H
    have c30b0 : decide ((ji28) < (t445.length : Int)) = true := decide_eq_true c30
    clear c30
    have H' := Aside0.mk H
    clear H
    obtain ⟨Ao31, co31, eo31⟩ := Kd.R_slice HO447.out
    subst eo31
    have p449 : 0 ≤ (0 : Int) := (by omega)
    have q449 : 0 < (t445.length : Int) := tD
    obtain ⟨ad449, e449, hx449_0⟩ := Kd.at_int (Kd.R_reads' HO447.out).2.2 0 p449 q449
    cases e449
    have qi449 : (0 < t445.length) = True := eq_true (by omega)
    (try rw [show ((0 : Int)).toNat = 0 from rfl] at hx449_0)
    (try rw [Addr.add_zero'] at hx449_0)
    replace p449 := eq_true p449
    replace q449 := eq_true q449
    have hcz32_0 : w19.cell? ⟨gb442, 0, none⟩ = some (.slice A0_0 l0_0.length c0_0) := (blk_cell BK442.out 0).trans rfl
    have hcz32_1 : w19.cell? ⟨gb442, 1, none⟩ = some (.slice A0_1 l0_1.length c0_1) := (blk_cell BK442.out 1).trans rfl
    have hcz32_2 : w19.cell? ⟨gb442, 2, none⟩ = some (.slice A0_2 l0_2.length c0_2) := (blk_cell BK442.out 2).trans rfl
    have hcz32_3 : w19.cell? ⟨gb442, 3, none⟩ = some (.slice A0_3 l0_3.length c0_3) := (blk_cell BK442.out 3).trans rfl
    have hcz32_4 : w19.cell? ⟨gb442, 4, none⟩ = some (.slice A0_4 l0_4.length c0_4) := (blk_cell BK442.out 4).trans rfl
    have hfz32_0 := blk_frozen BK442.out 0
    have hfz32_1 := blk_frozen BK442.out 1
    have hfz32_2 := blk_frozen BK442.out 2
    have hfz32_3 := blk_frozen BK442.out 3
    have hfz32_4 := blk_frozen BK442.out 4
    have p450 : 0 ≤ ((ji24) : Int) := tD
    have q450 : (ji24) < (l0_3.length : Int) := tD
    obtain ⟨ad450, e450, hx450_0, hx450_1, hx450_2, hx450_3, hx450_4, hx450_5, hx450_6, hx450_7⟩ := at_T42 HR0_3.out (ji24) p450 q450
    cases e450
    replace hx450_0 := cB HB hx450_0
    replace hx450_1 := cB HB hx450_1
    replace hx450_2 := cB HB hx450_2
    replace hx450_3 := cB HB hx450_3
    replace hx450_4 := cB HB hx450_4
    replace hx450_5 := cB HB hx450_5
    replace hx450_6 := cB HB hx450_6
    replace hx450_7 := cB HB hx450_7
    replace p450 := eq_true p450
    replace q450 := eq_true q450
    have p451 : 0 ≤ ((ji28) : Int) := tD
    have q451 : (ji28) < (t445.length : Int) := tD
    obtain ⟨ad451, e451, hx451_0⟩ := Kd.at_int (Kd.R_reads' HO447.out).2.2 (ji28) p451 q451
    obtain rfl : ad449 = ad451 := (by injection e451)
    replace p451 := eq_true p451
    replace q451 := eq_true q451
    go_wp2
    repeat (go_quiet (fail); try go_wp2)
    (try simp only [← hji24, ← hji28])
    go_meet
    case rel => exact ⟨_, (((rd t445 (ji28)) != 0)), (by first | rfl | (simp; done) | (simp only [← hji28] <;> (first | rfl | simp)) | (simp [*]; done)), H', ⟨by have := HJ3.out; first | omega | exact Nat.le_refl _⟩, ⟨kR HO447⟩, ⟨kK BK442⟩, ⟨kB1 HB GE442⟩⟩
   case rest =>
    clear HC17
    try clear hcz11_0 hcz11_1 hcz11_2 hcz11_3 hcz11_4 hfz11_0 hfz11_1 hfz11_2 hfz11_3 hfz11_4
    try clear hcz12_0 hcz12_1 hcz12_2 hcz12_3 hcz12_4 hfz12_0 hfz12_1 hfz12_2 hfz12_3 hfz12_4
    try clear hcz18_0 hcz18_1 hcz18_2 hcz18_3 hcz18_4 hfz18_0 hfz18_1 hfz18_2 hfz18_3 hfz18_4
    try clear hcz32_0 hcz32_1 hcz32_2 hcz32_3 hcz32_4 hfz32_0 hfz32_1 hfz32_2 hfz32_3 hfz32_4
    try clear hcz34_0 hcz34_1 hcz34_2 hcz34_3 hcz34_4 hfz34_0 hfz34_1 hfz34_2 hfz34_3 hfz34_4
    try clear hcz9_0 hcz9_1 hcz9_2 hcz9_3 hcz9_4 hfz9_0 hfz9_1 hfz9_2 hfz9_3 hfz9_4
    try clear c1
    try clear c2
    try clear p2
    try clear c3
    try clear c4
    try clear p4
    try clear q4
    try clear hx4
    try clear qi4
    try clear p6
    try clear c8
    try clear c14
    try clear c15
    try clear c15b0
    try clear c15b1
    try clear c15b2
    try clear c20
    try clear c20b0
    try clear c20b1
    try clear c21
    try clear c21b0
    try clear c21b1
    try clear c21b2
    try clear c23
    try clear c23b0
    try clear c23b1
    try clear c25
    try clear c25b0
    try clear c26
    try clear c26b0
    try clear c27
    try clear c27b0
    try clear c27b1
    try clear c29
    try clear c29b0
    try clear c30
    try clear c30b0
    try clear hx449_0
    try clear hx450_0
    try clear hx450_1
    try clear hx450_2
    try clear hx450_3
    try clear hx450_4
    try clear hx450_5
    try clear hx450_6
    try clear hx450_7
    try clear hx451_0
    try clear p2
    try clear p449
    try clear p450
    try clear p451
    try clear q449
    try clear q450
    try clear q451
    obtain ⟨kq, x60_16, rfl, HA, HJ16, HO_7, BK442, HB⟩ := hcut
    cases kq with
    | zero => exact absurd HA.out (by simp [w08_TreePaths.j1])
    | succ kj16 =>
     have H := HA.out
     clear HA
     simp only [w08_TreePaths.j1] at H
     by_cases c35 : x60_16 = true
     ·subst c35
      have H1 : (some false) = some r := by rw [if_pos rfl] at H; exact H
      clear H
      have H := H1
      clear H1
      obtain rfl := Option.some.inj H
      go_wp2
      repeat (go_quiet (fail); try go_wp2)
      go_ret
      exact ⟨by first | rfl | (simp [errW_none, errW_some] <;> rfl) | (simp [*, errW_none, errW_some] <;> rfl), kB1 HB GE442⟩
     replace c35 := Bool.eq_false_iff.mpr c35
     subst c35
     have H1 : (w08_TreePaths.l0 kj16 t443 t445 1 l0_0 l0_1 l0_2 l0_3 l0_4) = some r := by rw [if_neg (show ¬ (false = true) by decide)] at H; exact H
     clear H
     have H := H1
     clear H1
     have H' := Aside0.mk H
     clear H
     go_wp2
     repeat (go_quiet (fail); try go_wp2)
     go_loopg [9] kj16 (fun kq v9 w' => ∃ (x9_3 : Int), v9 = .int .i64 x9_3 ∧ Aside0 (w08_TreePaths.l0 kq t443 t445 x9_3 l0_0 l0_1 l0_2 l0_3 l0_4 = some r) ∧ Aside0 (kq ≤ kj16) ∧ Aside0 (Kd.R (Kd.int .i64) 3 w' w.heap.size (fun _ => True) v446 t445) ∧ Aside0 (w'.heap[gb442]? = some (.cells #[(.slice A0_0 l0_0.length c0_0), (.slice A0_1 l0_1.length c0_1), (.slice A0_2 l0_2.length c0_2), (.slice A0_3 l0_3.length c0_3), (.slice A0_4 l0_4.length c0_4)] 28 (0, 0))) ∧ Aside0 (Below w.heap.size w w'))
     case atStart => exact ⟨(1), tQ, H', ⟨Nat.le_refl _⟩, ⟨kR HO_7⟩, ⟨kK BK442⟩, ⟨kB1 HB GE442⟩⟩
     case round =>
      clear H'
      try clear hcz11_0 hcz11_1 hcz11_2 hcz11_3 hcz11_4 hfz11_0 hfz11_1 hfz11_2 hfz11_3 hfz11_4
      try clear hcz12_0 hcz12_1 hcz12_2 hcz12_3 hcz12_4 hfz12_0 hfz12_1 hfz12_2 hfz12_3 hfz12_4
      try clear hcz18_0 hcz18_1 hcz18_2 hcz18_3 hcz18_4 hfz18_0 hfz18_1 hfz18_2 hfz18_3 hfz18_4
      try clear hcz32_0 hcz32_1 hcz32_2 hcz32_3 hcz32_4 hfz32_0 hfz32_1 hfz32_2 hfz32_3 hfz32_4
      try clear hcz34_0 hcz34_1 hcz34_2 hcz34_3 hcz34_4 hfz34_0 hfz34_1 hfz34_2 hfz34_3 hfz34_4
      try clear hcz9_0 hcz9_1 hcz9_2 hcz9_3 hcz9_4 hfz9_0 hfz9_1 hfz9_2 hfz9_3 hfz9_4
      try clear c1
      try clear c2
      try clear p2
      try clear c3
      try clear c4
      try clear p4
      try clear q4
      try clear hx4
      try clear qi4
      try clear p6
      try clear c8
      try clear c14
      try clear c15
      try clear c15b0
      try clear c15b1
      try clear c15b2
      try clear c20
      try clear c20b0
      try clear c20b1
      try clear c21
      try clear c21b0
      try clear c21b1
      try clear c21b2
      try clear c23
      try clear c23b0
      try clear c23b1
      try clear c25
      try clear c25b0
      try clear c26
      try clear c26b0
      try clear c27
      try clear c27b0
      try clear c27b1
      try clear c29
      try clear c29b0
      try clear c30
      try clear c30b0
      try clear c35
      try clear hx449_0
      try clear hx450_0
      try clear hx450_1
      try clear hx450_2
      try clear hx450_3
      try clear hx450_4
      try clear hx450_5
      try clear hx450_6
      try clear hx450_7
      try clear hx451_0
      try clear p2
      try clear p4
      try clear p449
      try clear p450
      try clear p451
      try clear p6
      try clear q4
      try clear q449
      try clear q450
      try clear q451
      obtain ⟨x9_3, rfl, HA, HK3, HO_7, BK442, HB⟩ := hrel
      cases gk with
      | zero => exact absurd HA.out (by simp [w08_TreePaths.l0])
      | succ k3 =>
       have H := HA.out
       clear HA
       simp only [w08_TreePaths.l0] at H
       by_cases c36 : x9_3 < (t445.length : Int)
       rotate_left
       ·rw [if_neg c36] at H
        have c36b0 : decide (x9_3 < (t445.length : Int)) = false := decide_eq_false c36
        clear c36
        obtain rfl := Option.some.inj H
        obtain ⟨Ao52, co52, eo52⟩ := Kd.R_slice HO_7.out
        subst eo52
        go_wp2
        repeat (go_quiet (fail); try go_wp2)
        go_ret
        exact ⟨by first | rfl | (simp [errW_none, errW_some] <;> rfl) | (simp [*, errW_none, errW_some] <;> rfl), kB1 HB GE442⟩
       rw [if_pos c36] at H
       have c36b0 : decide (x9_3 < (t445.length : Int)) = true := decide_eq_true c36
       clear c36
       by_cases c37 : 0 ≤ x9_3
       rotate_left
       ·rw [if_neg c37] at H
        exact absurd H (by simp)
       rw [if_pos c37] at H
       have c37b0 : decide (0 ≤ x9_3) = true := decide_eq_true c37
       clear c37
       by_cases c38 : (rd t445 x9_3) < 0
       ·rw [if_pos c38] at H
        have c38b0 : decide ((rd t445 x9_3) < 0) = true := decide_eq_true c38
        clear c38
        obtain rfl := Option.some.inj H
        obtain ⟨Ao39, co39, eo39⟩ := Kd.R_slice HO_7.out
        subst eo39
        have p452 : 0 ≤ (x9_3 : Int) := tD
        have q452 : x9_3 < (t445.length : Int) := tD
        obtain ⟨ad452, e452, hx452_0⟩ := Kd.at_int (Kd.R_reads' HO_7.out).2.2 x9_3 p452 q452
        cases e452
        replace p452 := eq_true p452
        replace q452 := eq_true q452
        go_wp2
        repeat (go_quiet (fail); try go_wp2)
        go_ret
        exact ⟨by first | rfl | (simp [errW_none, errW_some] <;> rfl) | (simp [*, errW_none, errW_some] <;> rfl), kB1 HB GE442⟩
       rw [if_neg c38] at H
       have c38b0 : decide ((rd t445 x9_3) < 0) = false := decide_eq_false c38
       clear c38
       obtain ⟨ji40, hji40⟩ : ∃ j_ : Int, (wrap64 (x9_3 - 1)) = j_ := ⟨_, rfl⟩
       replace H : (if 0 ≤ (ji40) then (if (ji40) < (t445.length : Int) then (if (rd t445 x9_3) ≥ (rd t445 (ji40)) then (some false) else (if 0 ≤ (rd t445 (ji40)) then (if (rd t445 (ji40)) < (l0_0.length : Int) then (if ((rd_T48 l0_0 (rd t445 (ji40))).f1) = (rd t445 x9_3) then (w08_TreePaths.l0 k3 t443 t445 (wrap64 (x9_3 + 1)) l0_0 l0_1 l0_2 l0_3 l0_4) else (some false)) else (none)) else (none))) else (none)) else (none)) = some r := by first | (rw [hji40] at H; exact H) | (simp only [hji40] at H ⊢; exact H)
       have hji40w : (IntKind.i64.wrap (x9_3 - 1)) = ji40 := (i64_w _).trans hji40
       by_cases c41 : 0 ≤ (ji40)
       rotate_left
       ·rw [if_neg c41] at H
        exact absurd H (by simp)
       rw [if_pos c41] at H
       have c41b0 : decide (0 ≤ (ji40)) = true := decide_eq_true c41
       clear c41
       by_cases c42 : (ji40) < (t445.length : Int)
       rotate_left
       ·rw [if_neg c42] at H
        exact absurd H (by simp)
       rw [if_pos c42] at H
       have c42b0 : decide ((ji40) < (t445.length : Int)) = true := decide_eq_true c42
       clear c42
       by_cases c43 : (rd t445 x9_3) ≥ (rd t445 (ji40))
       ·rw [if_pos c43] at H
        have c43b0 : decide ((rd t445 (ji40)) ≤ (rd t445 x9_3)) = true := decide_eq_true c43
        clear c43
        obtain rfl := Option.some.inj H
        obtain ⟨Ao44, co44, eo44⟩ := Kd.R_slice HO_7.out
        subst eo44
        have p452 : 0 ≤ (x9_3 : Int) := tD
        have q452 : x9_3 < (t445.length : Int) := tD
        obtain ⟨ad452, e452, hx452_0⟩ := Kd.at_int (Kd.R_reads' HO_7.out).2.2 x9_3 p452 q452
        cases e452
        replace p452 := eq_true p452
        replace q452 := eq_true q452
        have p453 : 0 ≤ (x9_3 : Int) := tD
        have q453 : x9_3 < (t445.length : Int) := tD
        obtain ⟨ad453, e453, hx453_0⟩ := Kd.at_int (Kd.R_reads' HO_7.out).2.2 x9_3 p453 q453
        obtain rfl : ad452 = ad453 := (by injection e453)
        replace p453 := eq_true p453
        replace q453 := eq_true q453
        have p454 : 0 ≤ ((ji40) : Int) := tD
        have q454 : (ji40) < (t445.length : Int) := tD
        obtain ⟨ad454, e454, hx454_0⟩ := Kd.at_int (Kd.R_reads' HO_7.out).2.2 (ji40) p454 q454
        obtain rfl : ad452 = ad454 := (by injection e454)
        replace p454 := eq_true p454
        replace q454 := eq_true q454
        go_wp2
        repeat (go_quiet (fail); try go_wp2)
        go_ret
        exact ⟨by first | rfl | (simp [errW_none, errW_some] <;> rfl) | (simp only [← hji40]; first | rfl | (simp [errW_none, errW_some] <;> rfl)) | (simp [*, errW_none, errW_some] <;> rfl), kB1 HB GE442⟩
       rw [if_neg c43] at H
       have c43b0 : decide ((rd t445 (ji40)) ≤ (rd t445 x9_3)) = false := decide_eq_false c43
       clear c43
       by_cases c45 : 0 ≤ (rd t445 (ji40))
       rotate_left
       ·rw [if_neg c45] at H
        exact absurd H (by simp)
       rw [if_pos c45] at H
       have c45b0 : decide (0 ≤ (rd t445 (ji40))) = true := decide_eq_true c45
       clear c45
       by_cases c46 : (rd t445 (ji40)) < (l0_0.length : Int)
       rotate_left
       ·rw [if_neg c46] at H
        exact absurd H (by simp)
       rw [if_pos c46] at H
       have c46b0 : decide ((rd t445 (ji40)) < (l0_0.length : Int)) = true := decide_eq_true c46
       clear c46
       by_cases c47 : ((rd_T48 l0_0 (rd t445 (ji40))).f1) = (rd t445 x9_3)
       rotate_left
       ·rw [if_neg c47] at H
        have c47b0 : (((rd_T48 l0_0 (rd t445 (ji40))).f1) == (rd t445 x9_3)) = false := beq_eq_false_iff_ne.mpr c47
        have c47b1 : (((rd_T48 l0_0 (rd t445 (ji40))).f1) != (rd t445 x9_3)) = true := bne_iff_ne.mpr c47
        obtain rfl := Option.some.inj H
        obtain ⟨Ao50, co50, eo50⟩ := Kd.R_slice HO_7.out
        subst eo50
        have p452 : 0 ≤ (x9_3 : Int) := tD
        have q452 : x9_3 < (t445.length : Int) := tD
        obtain ⟨ad452, e452, hx452_0⟩ := Kd.at_int (Kd.R_reads' HO_7.out).2.2 x9_3 p452 q452
        cases e452
        replace p452 := eq_true p452
        replace q452 := eq_true q452
        have p453 : 0 ≤ (x9_3 : Int) := tD
        have q453 : x9_3 < (t445.length : Int) := tD
        obtain ⟨ad453, e453, hx453_0⟩ := Kd.at_int (Kd.R_reads' HO_7.out).2.2 x9_3 p453 q453
        obtain rfl : ad452 = ad453 := (by injection e453)
        replace p453 := eq_true p453
        replace q453 := eq_true q453
        have p454 : 0 ≤ ((ji40) : Int) := tD
        have q454 : (ji40) < (t445.length : Int) := tD
        obtain ⟨ad454, e454, hx454_0⟩ := Kd.at_int (Kd.R_reads' HO_7.out).2.2 (ji40) p454 q454
        obtain rfl : ad452 = ad454 := (by injection e454)
        replace p454 := eq_true p454
        replace q454 := eq_true q454
        have hcz51_0 : wr.cell? ⟨gb442, 0, none⟩ = some (.slice A0_0 l0_0.length c0_0) := (blk_cell BK442.out 0).trans rfl
        have hcz51_1 : wr.cell? ⟨gb442, 1, none⟩ = some (.slice A0_1 l0_1.length c0_1) := (blk_cell BK442.out 1).trans rfl
        have hcz51_2 : wr.cell? ⟨gb442, 2, none⟩ = some (.slice A0_2 l0_2.length c0_2) := (blk_cell BK442.out 2).trans rfl
        have hcz51_3 : wr.cell? ⟨gb442, 3, none⟩ = some (.slice A0_3 l0_3.length c0_3) := (blk_cell BK442.out 3).trans rfl
        have hcz51_4 : wr.cell? ⟨gb442, 4, none⟩ = some (.slice A0_4 l0_4.length c0_4) := (blk_cell BK442.out 4).trans rfl
        have hfz51_0 := blk_frozen BK442.out 0
        have hfz51_1 := blk_frozen BK442.out 1
        have hfz51_2 := blk_frozen BK442.out 2
        have hfz51_3 := blk_frozen BK442.out 3
        have hfz51_4 := blk_frozen BK442.out 4
        have p455 : 0 ≤ ((ji40) : Int) := tD
        have q455 : (ji40) < (t445.length : Int) := tD
        obtain ⟨ad455, e455, hx455_0⟩ := Kd.at_int (Kd.R_reads' HO_7.out).2.2 (ji40) p455 q455
        obtain rfl : ad452 = ad455 := (by injection e455)
        replace p455 := eq_true p455
        replace q455 := eq_true q455
        have p456 : 0 ≤ ((rd t445 (ji40)) : Int) := tD
        have q456 : (rd t445 (ji40)) < (l0_0.length : Int) := tD
        obtain ⟨ad456, e456, hx456_0, hx456_1, hx456_2, hx456_3, hx456_4, hx456_5, hx456_6, hx456_7, hx456_8, hx456_9, hx456_10⟩ := at_T48 HR0_0.out (rd t445 (ji40)) p456 q456
        cases e456
        replace hx456_0 := cB HB hx456_0
        replace hx456_1 := cB HB hx456_1
        replace hx456_2 := cB HB hx456_2
        replace hx456_3 := cB HB hx456_3
        replace hx456_4 := cB HB hx456_4
        replace hx456_5 := cB HB hx456_5
        replace hx456_6 := cB HB hx456_6
        replace hx456_7 := cB HB hx456_7
        replace hx456_8 := cB HB hx456_8
        replace hx456_9 := cB HB hx456_9
        replace hx456_10 := cB HB hx456_10
        replace p456 := eq_true p456
        replace q456 := eq_true q456
        have p457 : 0 ≤ (x9_3 : Int) := tD
        have q457 : x9_3 < (t445.length : Int) := tD
        obtain ⟨ad457, e457, hx457_0⟩ := Kd.at_int (Kd.R_reads' HO_7.out).2.2 x9_3 p457 q457
        obtain rfl : ad452 = ad457 := (by injection e457)
        replace p457 := eq_true p457
        replace q457 := eq_true q457
        go_wp2
        repeat (go_quiet (fail); try go_wp2)
        go_ret
        exact ⟨by first | rfl | (simp [errW_none, errW_some] <;> rfl) | (simp only [← hji40]; first | rfl | (simp [errW_none, errW_some] <;> rfl)) | (simp [*, errW_none, errW_some] <;> rfl), kB1 HB GE442⟩
       rw [if_pos c47] at H
       have c47b0 : (((rd_T48 l0_0 (rd t445 (ji40))).f1) == (rd t445 x9_3)) = true := beq_iff_eq.mpr c47
       have c47b1 : (((rd_T48 l0_0 (rd t445 (ji40))).f1) != (rd t445 x9_3)) = false := bne_eq_false_iff_eq.mpr c47
       clear c47
       have H' := Aside0.mk H
       clear H
       obtain ⟨Ao48, co48, eo48⟩ := Kd.R_slice HO_7.out
       subst eo48
       have p452 : 0 ≤ (x9_3 : Int) := tD
       have q452 : x9_3 < (t445.length : Int) := tD
       obtain ⟨ad452, e452, hx452_0⟩ := Kd.at_int (Kd.R_reads' HO_7.out).2.2 x9_3 p452 q452
       cases e452
       replace p452 := eq_true p452
       replace q452 := eq_true q452
       have p453 : 0 ≤ (x9_3 : Int) := tD
       have q453 : x9_3 < (t445.length : Int) := tD
       obtain ⟨ad453, e453, hx453_0⟩ := Kd.at_int (Kd.R_reads' HO_7.out).2.2 x9_3 p453 q453
       obtain rfl : ad452 = ad453 := (by injection e453)
       replace p453 := eq_true p453
       replace q453 := eq_true q453
       have p454 : 0 ≤ ((ji40) : Int) := tD
       have q454 : (ji40) < (t445.length : Int) := tD
       obtain ⟨ad454, e454, hx454_0⟩ := Kd.at_int (Kd.R_reads' HO_7.out).2.2 (ji40) p454 q454
       obtain rfl : ad452 = ad454 := (by injection e454)
       replace p454 := eq_true p454
       replace q454 := eq_true q454
       have hcz49_0 : wr.cell? ⟨gb442, 0, none⟩ = some (.slice A0_0 l0_0.length c0_0) := (blk_cell BK442.out 0).trans rfl
       have hcz49_1 : wr.cell? ⟨gb442, 1, none⟩ = some (.slice A0_1 l0_1.length c0_1) := (blk_cell BK442.out 1).trans rfl
       have hcz49_2 : wr.cell? ⟨gb442, 2, none⟩ = some (.slice A0_2 l0_2.length c0_2) := (blk_cell BK442.out 2).trans rfl
       have hcz49_3 : wr.cell? ⟨gb442, 3, none⟩ = some (.slice A0_3 l0_3.length c0_3) := (blk_cell BK442.out 3).trans rfl
       have hcz49_4 : wr.cell? ⟨gb442, 4, none⟩ = some (.slice A0_4 l0_4.length c0_4) := (blk_cell BK442.out 4).trans rfl
       have hfz49_0 := blk_frozen BK442.out 0
       have hfz49_1 := blk_frozen BK442.out 1
       have hfz49_2 := blk_frozen BK442.out 2
       have hfz49_3 := blk_frozen BK442.out 3
       have hfz49_4 := blk_frozen BK442.out 4
       have p455 : 0 ≤ ((ji40) : Int) := tD
       have q455 : (ji40) < (t445.length : Int) := tD
       obtain ⟨ad455, e455, hx455_0⟩ := Kd.at_int (Kd.R_reads' HO_7.out).2.2 (ji40) p455 q455
       obtain rfl : ad452 = ad455 := (by injection e455)
       replace p455 := eq_true p455
       replace q455 := eq_true q455
       have p456 : 0 ≤ ((rd t445 (ji40)) : Int) := tD
       have q456 : (rd t445 (ji40)) < (l0_0.length : Int) := tD
       obtain ⟨ad456, e456, hx456_0, hx456_1, hx456_2, hx456_3, hx456_4, hx456_5, hx456_6, hx456_7, hx456_8, hx456_9, hx456_10⟩ := at_T48 HR0_0.out (rd t445 (ji40)) p456 q456
       cases e456
       replace hx456_0 := cB HB hx456_0
       replace hx456_1 := cB HB hx456_1
       replace hx456_2 := cB HB hx456_2
       replace hx456_3 := cB HB hx456_3
       replace hx456_4 := cB HB hx456_4
       replace hx456_5 := cB HB hx456_5
       replace hx456_6 := cB HB hx456_6
       replace hx456_7 := cB HB hx456_7
       replace hx456_8 := cB HB hx456_8
       replace hx456_9 := cB HB hx456_9
       replace hx456_10 := cB HB hx456_10
       replace p456 := eq_true p456
       replace q456 := eq_true q456
       have p457 : 0 ≤ (x9_3 : Int) := tD
       have q457 : x9_3 < (t445.length : Int) := tD
       obtain ⟨ad457, e457, hx457_0⟩ := Kd.at_int (Kd.R_reads' HO_7.out).2.2 x9_3 p457 q457
       obtain rfl : ad452 = ad457 := (by injection e457)
       replace p457 := eq_true p457
       replace q457 := eq_true q457
       go_wp2
       repeat (go_quiet (fail); try go_wp2)
       go_roundg k3
       case measure => have := HJ3.out; have := HJ16.out; have := HK3.out; omega
       case rel => exact ⟨(wrap64 (x9_3 + 1)), tQ, H', ⟨by have := HJ3.out; have := HJ16.out; have := HK3.out; omega⟩, ⟨kR HO_7⟩, ⟨kK BK442⟩, ⟨kB1 HB GE442⟩⟩
def w08_TreePaths.Pure : Prop := ∀ (s0 : S28) (a1 : Int), (wfS28 s0) → ((Lit.int .u8 a1).wf = true) → ∃ k, w08_TreePaths.f k s0.f0 s0.f1 s0.f2 s0.f3 s0.f4 a1 = some true
theorem w08_TreePaths.walk (P : w08_TreePaths.Pure) (s0 : S28) (a1 : Int) (cs0 : Array Value) (w : World) (w0 : wfS28 s0) (w1 : (Lit.int .u8 a1).wf = true) (K0 : k28.K w s0 cs0.toList) :
    Calls Try.prog 4 #[.agg cs0, .int .u8 a1] w fun e w' => e = .returned (.bool true) ∧ Below w.heap.size w w' := by
 obtain ⟨k, h⟩ := P s0 a1 w0 w1
 obtain ⟨A0_0, e0_0, A0_1, e0_1, A0_2, e0_2, A0_3, e0_3, A0_4, e0_4, hs0, hl0_0, hC0_0, hl0_1, hC0_1, hl0_2, hC0_2, hl0_3, hC0_3, hl0_4, hC0_4⟩ := k28_open K0
 obtain ⟨L0⟩ := cs0
 obtain rfl : L0 = _ := hs0
 refine (w08_TreePaths.calls k _ _ s0.f0 _ _ s0.f1 _ _ s0.f2 _ _ s0.f3 _ _ s0.f4 a1 true w hC0_0 hl0_0 hC0_1 hl0_1 hC0_2 hl0_2 hC0_3 hl0_3 hC0_4 hl0_4 h).mono ?_
 rintro e w' ⟨rfl, hd⟩
 exact ⟨rfl, hd⟩
end Go.Proofs.Ytpdmnineampimaa.Q
