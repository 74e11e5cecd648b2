import Derived.Test.YtpdmnineampimaaZe
import Derived.Test.YtpdmnineampimaaZQx32
set_option linter.unusedVariables false
set_option linter.unusedSimpArgs false
namespace Go.Proofs.Ytpdmnineampimaa.Q
open Go.RowKit Go.Proofs.YtpdmnineampimaaW.PrintWords Go.Proofs.YtpdmnineampimaaW.PrintLast Go.Proofs.YtpdmnineampimaaW.PrintMore
attribute [local go_sem] max2_int min2_int max_two min_two max_three min_three max_four min_four
def r04_Charger.f (a0_0 : ByteArray) (a0_1 : Int) (a0_2 : Int) (a0_3 : Int) (a0_4 : Int) (a0_5 : Int) (a0_6 : Int) (a0_7 : Int) : Option (Bool) := (r04_inside.f a0_2 1 7).bind fun t349 => (if t349 = true then ((r04_inside.f a0_3 1 80).bind fun t350 => (if t350 = true then ((r04_inside.f a0_4 a0_3 80).bind fun t351 => (if t351 = true then ((r04_inside.f a0_5 1 80).bind fun t352 => (if t352 = true then (if a0_6 = 0 then (some true) else ((r04_inside.f a0_6 a0_3 a0_4).bind fun t353 => (some t353))) else (some false))) else (some false))) else (some false))) else (some false))
set_option maxHeartbeats 8000000 in
set_option maxRecDepth 100000 in
theorem r04_Charger.calls (a0_0 : ByteArray) (a0_1 : Int) (a0_2 : Int) (a0_3 : Int) (a0_4 : Int) (a0_5 : Int) (a0_6 : Int) (a0_7 : Int) (r : Bool) (w : World) (h : r04_Charger.f a0_0 a0_1 a0_2 a0_3 a0_4 a0_5 a0_6 a0_7 = some r) :
    Calls Try.prog 49 #[.agg #[.string a0_0, .int .i64 a0_1, .int .i64 a0_2, .int .i64 a0_3, .int .i64 a0_4, .int .i64 a0_5, .int .i64 a0_6, .int .i64 a0_7]] w fun e w' => e = .returned (.bool r) ∧ Below w.heap.size w w' := by
 have hu42 := Try.underlying42
 have HB := Aside0.mk (Below.refl w.heap.size w)
 have H : ((r04_inside.f a0_2 1 7).bind fun t349 => (if t349 = true then ((r04_inside.f a0_3 1 80).bind fun t350 => (if t350 = true then ((r04_inside.f a0_4 a0_3 80).bind fun t351 => (if t351 = true then ((r04_inside.f a0_5 1 80).bind fun t352 => (if t352 = true then (if a0_6 = 0 then (some true) else ((r04_inside.f a0_6 a0_3 a0_4).bind fun t353 => (some t353))) else (some false))) else (some false))) else (some false))) else (some false))) = some r := h
 clear h
 replace H := Option.bind_eq_some_iff.mp H
 obtain ⟨t349, A20, H⟩ := H
 replace H : (if t349 = true then ((r04_inside.f a0_3 1 80).bind fun t350 => (if t350 = true then ((r04_inside.f a0_4 a0_3 80).bind fun t351 => (if t351 = true then ((r04_inside.f a0_5 1 80).bind fun t352 => (if t352 = true then (if a0_6 = 0 then (some true) else ((r04_inside.f a0_6 a0_3 a0_4).bind fun t353 => (some t353))) else (some false))) else (some false))) else (some false))) else (some false)) = some r := H
 have A2 := Aside0.mk A20
 clear A20
 by_cases c3 : t349 = true
 rotate_left
 ·replace c3 := Bool.eq_false_iff.mpr c3
  subst c3
  have H1 : (some false) = some r := by rw [if_neg (show ¬ (false = true) by decide)] at H; exact H
  clear H
  have H := H1
  clear H1
  obtain rfl := Option.some.inj H
  go_enter Try.func49, Try.ntmps49
  go_wp2_with (first | ((with_reducible refine gate_dst (N := 1) rfl ?_); refine box_event ?hg (N := 1) ?hd (cs := #[.string a0_0, .int .i64 a0_1, .int .i64 a0_2, .int .i64 a0_3, .int .i64 a0_4, .int .i64 a0_5, .int .i64 a0_6, .int .i64 a0_7]) (t := 42) ?hr ?_; (case hd => rfl); (case hg => rfl); (case hr => first | (go_simp; done) | (go_simp; rfl)); intro gb348 hg w22 hbox hb; have n0_ := Aside0.mk (below_step (kB HB) hb); have n1_ := Aside0.mk (hbox); have n2_ := Aside0.mk ((by rw [hg]; exact (below_size (kB HB)) : w.heap.size ≤ gb348)); have n3_ := Aside0.mk ((by rw [hg]; exact (below_size (kB HB)) : w.heap.size ≤ gb348)); clear HB; have HB := n0_; have BK348 := n1_; have GW348 := n2_; have GE348 := n3_; clear n0_ n1_ n2_ n3_; clear hb hbox hg; have hcz23_0 : w22.cell? ⟨gb348, 0, none⟩ = some (.string a0_0) := (blk_cell BK348.out 0).trans rfl; have hcz23_1 : w22.cell? ⟨gb348, 1, none⟩ = some (.int .i64 a0_1) := (blk_cell BK348.out 1).trans rfl; have hcz23_2 : w22.cell? ⟨gb348, 2, none⟩ = some (.int .i64 a0_2) := (blk_cell BK348.out 2).trans rfl; have hcz23_3 : w22.cell? ⟨gb348, 3, none⟩ = some (.int .i64 a0_3) := (blk_cell BK348.out 3).trans rfl; have hcz23_4 : w22.cell? ⟨gb348, 4, none⟩ = some (.int .i64 a0_4) := (blk_cell BK348.out 4).trans rfl; have hcz23_5 : w22.cell? ⟨gb348, 5, none⟩ = some (.int .i64 a0_5) := (blk_cell BK348.out 5).trans rfl; have hcz23_6 : w22.cell? ⟨gb348, 6, none⟩ = some (.int .i64 a0_6) := (blk_cell BK348.out 6).trans rfl; have hcz23_7 : w22.cell? ⟨gb348, 7, none⟩ = some (.int .i64 a0_7) := (blk_cell BK348.out 7).trans rfl; have hfz23_0 := blk_frozen BK348.out 0; have hfz23_1 := blk_frozen BK348.out 1; have hfz23_2 := blk_frozen BK348.out 2; have hfz23_3 := blk_frozen BK348.out 3; have hfz23_4 := blk_frozen BK348.out 4; have hfz23_5 := blk_frozen BK348.out 5; have hfz23_6 := blk_frozen BK348.out 6; have hfz23_7 := blk_frozen BK348.out 7) | ((with_reducible refine gate_callee (f := 46) rfl ?_); refine goesL_ (some 5) rfl rfl Try.func46 (by kernel_rfl) rfl #[.int .i64 a0_2, .int .i64 1, .int .i64 7] rfl tL ?_; (with_reducible refine (r04_inside.calls a0_2 1 7 false _ A2.out).mono ?_); rintro e w' ⟨rfl, ⟨nd, rfl⟩⟩; refine ⟨_, rfl, ?_⟩))
  go_ret
  exact ⟨by first | rfl | (simp [errW_none, errW_some] <;> rfl) | (simp [*, errW_none, errW_some] <;> rfl), kB1 HB GE348⟩
 subst c3
 have H1 : ((r04_inside.f a0_3 1 80).bind fun t350 => (if t350 = true then ((r04_inside.f a0_4 a0_3 80).bind fun t351 => (if t351 = true then ((r04_inside.f a0_5 1 80).bind fun t352 => (if t352 = true then (if a0_6 = 0 then (some true) else ((r04_inside.f a0_6 a0_3 a0_4).bind fun t353 => (some t353))) else (some false))) else (some false))) else (some false))) = some r := by rw [if_pos rfl] at H; exact H
 clear H
 have H := H1
 clear H1
 replace H := Option.bind_eq_some_iff.mp H
 obtain ⟨t350, A40, H⟩ := H
 replace H : (if t350 = true then ((r04_inside.f a0_4 a0_3 80).bind fun t351 => (if t351 = true then ((r04_inside.f a0_5 1 80).bind fun t352 => (if t352 = true then (if a0_6 = 0 then (some true) else ((r04_inside.f a0_6 a0_3 a0_4).bind fun t353 => (some t353))) else (some false))) else (some false))) else (some false)) = some r := H
 have A4 := Aside0.mk A40
 clear A40
 by_cases c5 : t350 = true
 rotate_left
 ·replace c5 := Bool.eq_false_iff.mpr c5
  subst c5
  have H1 : (some false) = some r := by rw [if_neg (show ¬ (false = true) by decide)] at H; exact H
  clear H
  have H := H1
  clear H1
  obtain rfl := Option.some.inj H
  go_enter Try.func49, Try.ntmps49
  go_wp2_with (first | ((with_reducible refine gate_dst (N := 1) rfl ?_); refine box_event ?hg (N := 1) ?hd (cs := #[.string a0_0, .int .i64 a0_1, .int .i64 a0_2, .int .i64 a0_3, .int .i64 a0_4, .int .i64 a0_5, .int .i64 a0_6, .int .i64 a0_7]) (t := 42) ?hr ?_; (case hd => rfl); (case hg => rfl); (case hr => first | (go_simp; done) | (go_simp; rfl)); intro gb348 hg w20 hbox hb; have n0_ := Aside0.mk (below_step (kB HB) hb); have n1_ := Aside0.mk (hbox); have n2_ := Aside0.mk ((by rw [hg]; exact (below_size (kB HB)) : w.heap.size ≤ gb348)); have n3_ := Aside0.mk ((by rw [hg]; exact (below_size (kB HB)) : w.heap.size ≤ gb348)); clear HB; have HB := n0_; have BK348 := n1_; have GW348 := n2_; have GE348 := n3_; clear n0_ n1_ n2_ n3_; clear hb hbox hg; have hcz21_0 : w20.cell? ⟨gb348, 0, none⟩ = some (.string a0_0) := (blk_cell BK348.out 0).trans rfl; have hcz21_1 : w20.cell? ⟨gb348, 1, none⟩ = some (.int .i64 a0_1) := (blk_cell BK348.out 1).trans rfl; have hcz21_2 : w20.cell? ⟨gb348, 2, none⟩ = some (.int .i64 a0_2) := (blk_cell BK348.out 2).trans rfl; have hcz21_3 : w20.cell? ⟨gb348, 3, none⟩ = some (.int .i64 a0_3) := (blk_cell BK348.out 3).trans rfl; have hcz21_4 : w20.cell? ⟨gb348, 4, none⟩ = some (.int .i64 a0_4) := (blk_cell BK348.out 4).trans rfl; have hcz21_5 : w20.cell? ⟨gb348, 5, none⟩ = some (.int .i64 a0_5) := (blk_cell BK348.out 5).trans rfl; have hcz21_6 : w20.cell? ⟨gb348, 6, none⟩ = some (.int .i64 a0_6) := (blk_cell BK348.out 6).trans rfl; have hcz21_7 : w20.cell? ⟨gb348, 7, none⟩ = some (.int .i64 a0_7) := (blk_cell BK348.out 7).trans rfl; have hfz21_0 := blk_frozen BK348.out 0; have hfz21_1 := blk_frozen BK348.out 1; have hfz21_2 := blk_frozen BK348.out 2; have hfz21_3 := blk_frozen BK348.out 3; have hfz21_4 := blk_frozen BK348.out 4; have hfz21_5 := blk_frozen BK348.out 5; have hfz21_6 := blk_frozen BK348.out 6; have hfz21_7 := blk_frozen BK348.out 7) | ((with_reducible refine gate_callee (f := 46) rfl ?_); refine goesL_ (some 5) rfl rfl Try.func46 (by kernel_rfl) rfl #[.int .i64 a0_2, .int .i64 1, .int .i64 7] rfl tL ?_; (with_reducible refine (r04_inside.calls a0_2 1 7 true _ A2.out).mono ?_); rintro e w' ⟨rfl, ⟨nd, rfl⟩⟩; refine ⟨_, rfl, ?_⟩) | (go_at_call 46; (with_reducible refine (r04_inside.calls a0_3 1 80 false _ A4.out).mono ?_); rintro e w' ⟨rfl, ⟨nd, rfl⟩⟩))
  go_ret
  exact ⟨by first | rfl | (simp [errW_none, errW_some] <;> rfl) | (simp [*, errW_none, errW_some] <;> rfl), kB1 HB GE348⟩
 subst c5
 have H1 : ((r04_inside.f a0_4 a0_3 80).bind fun t351 => (if t351 = true then ((r04_inside.f a0_5 1 80).bind fun t352 => (if t352 = true then (if a0_6 = 0 then (some true) else ((r04_inside.f a0_6 a0_3 a0_4).bind fun t353 => (some t353))) else (some false))) else (some false))) = some r := by rw [if_pos rfl] at H; exact H
 clear H
 have H := H1
 clear H1
 replace H := Option.bind_eq_some_iff.mp H
 obtain ⟨t351, A60, H⟩ := H
 replace H : (if t351 = true then ((r04_inside.f a0_5 1 80).bind fun t352 => (if t352 = true then (if a0_6 = 0 then (some true) else ((r04_inside.f a0_6 a0_3 a0_4).bind fun t353 => (some t353))) else (some false))) else (some false)) = some r := H
 have A6 := Aside0.mk A60
 clear A60
 by_cases c7 : t351 = true
 rotate_left
 ·replace c7 := Bool.eq_false_iff.mpr c7
  subst c7
  have H1 : (some false) = some r := by rw [if_neg (show ¬ (false = true) by decide)] at H; exact H
  clear H
  have H := H1
  clear H1
  obtain rfl := Option.some.inj H
  go_enter Try.func49, Try.ntmps49
  go_wp2_with (first | ((with_reducible refine gate_dst (N := 1) rfl ?_); refine box_event ?hg (N := 1) ?hd (cs := #[.string a0_0, .int .i64 a0_1, .int .i64 a0_2, .int .i64 a0_3, .int .i64 a0_4, .int .i64 a0_5, .int .i64 a0_6, .int .i64 a0_7]) (t := 42) ?hr ?_; (case hd => rfl); (case hg => rfl); (case hr => first | (go_simp; done) | (go_simp; rfl)); intro gb348 hg w18 hbox hb; have n0_ := Aside0.mk (below_step (kB HB) hb); have n1_ := Aside0.mk (hbox); have n2_ := Aside0.mk ((by rw [hg]; exact (below_size (kB HB)) : w.heap.size ≤ gb348)); have n3_ := Aside0.mk ((by rw [hg]; exact (below_size (kB HB)) : w.heap.size ≤ gb348)); clear HB; have HB := n0_; have BK348 := n1_; have GW348 := n2_; have GE348 := n3_; clear n0_ n1_ n2_ n3_; clear hb hbox hg; have hcz19_0 : w18.cell? ⟨gb348, 0, none⟩ = some (.string a0_0) := (blk_cell BK348.out 0).trans rfl; have hcz19_1 : w18.cell? ⟨gb348, 1, none⟩ = some (.int .i64 a0_1) := (blk_cell BK348.out 1).trans rfl; have hcz19_2 : w18.cell? ⟨gb348, 2, none⟩ = some (.int .i64 a0_2) := (blk_cell BK348.out 2).trans rfl; have hcz19_3 : w18.cell? ⟨gb348, 3, none⟩ = some (.int .i64 a0_3) := (blk_cell BK348.out 3).trans rfl; have hcz19_4 : w18.cell? ⟨gb348, 4, none⟩ = some (.int .i64 a0_4) := (blk_cell BK348.out 4).trans rfl; have hcz19_5 : w18.cell? ⟨gb348, 5, none⟩ = some (.int .i64 a0_5) := (blk_cell BK348.out 5).trans rfl; have hcz19_6 : w18.cell? ⟨gb348, 6, none⟩ = some (.int .i64 a0_6) := (blk_cell BK348.out 6).trans rfl; have hcz19_7 : w18.cell? ⟨gb348, 7, none⟩ = some (.int .i64 a0_7) := (blk_cell BK348.out 7).trans rfl; have hfz19_0 := blk_frozen BK348.out 0; have hfz19_1 := blk_frozen BK348.out 1; have hfz19_2 := blk_frozen BK348.out 2; have hfz19_3 := blk_frozen BK348.out 3; have hfz19_4 := blk_frozen BK348.out 4; have hfz19_5 := blk_frozen BK348.out 5; have hfz19_6 := blk_frozen BK348.out 6; have hfz19_7 := blk_frozen BK348.out 7) | ((with_reducible refine gate_callee (f := 46) rfl ?_); refine goesL_ (some 5) rfl rfl Try.func46 (by kernel_rfl) rfl #[.int .i64 a0_2, .int .i64 1, .int .i64 7] rfl tL ?_; (with_reducible refine (r04_inside.calls a0_2 1 7 true _ A2.out).mono ?_); rintro e w' ⟨rfl, ⟨nd, rfl⟩⟩; refine ⟨_, rfl, ?_⟩) | (go_at_call 46; (with_reducible refine (r04_inside.calls a0_3 1 80 true _ A4.out).mono ?_); rintro e w' ⟨rfl, ⟨nd, rfl⟩⟩) | (go_at_call 46; (with_reducible refine (r04_inside.calls a0_4 a0_3 80 false _ A6.out).mono ?_); rintro e w' ⟨rfl, ⟨nd, rfl⟩⟩))
  go_ret
  exact ⟨by first | rfl | (simp [errW_none, errW_some] <;> rfl) | (simp [*, errW_none, errW_some] <;> rfl), kB1 HB GE348⟩
 subst c7
 have H1 : ((r04_inside.f a0_5 1 80).bind fun t352 => (if t352 = true then (if a0_6 = 0 then (some true) else ((r04_inside.f a0_6 a0_3 a0_4).bind fun t353 => (some t353))) else (some false))) = some r := by rw [if_pos rfl] at H; exact H
 clear H
 have H := H1
 clear H1
 replace H := Option.bind_eq_some_iff.mp H
 obtain ⟨t352, A80, H⟩ := H
 replace H : (if t352 = true then (if a0_6 = 0 then (some true) else ((r04_inside.f a0_6 a0_3 a0_4).bind fun t353 => (some t353))) else (some false)) = some r := H
 have A8 := Aside0.mk A80
 clear A80
 by_cases c9 : t352 = true
 rotate_left
 ·replace c9 := Bool.eq_false_iff.mpr c9
  subst c9
  have H1 : (some false) = some r := by rw [if_neg (show ¬ (false = true) by decide)] at H; exact H
  clear H
  have H := H1
  clear H1
  obtain rfl := Option.some.inj H
  go_enter Try.func49, Try.ntmps49
  go_wp2_with (first | ((with_reducible refine gate_dst (N := 1) rfl ?_); refine box_event ?hg (N := 1) ?hd (cs := #[.string a0_0, .int .i64 a0_1, .int .i64 a0_2, .int .i64 a0_3, .int .i64 a0_4, .int .i64 a0_5, .int .i64 a0_6, .int .i64 a0_7]) (t := 42) ?hr ?_; (case hd => rfl); (case hg => rfl); (case hr => first | (go_simp; done) | (go_simp; rfl)); intro gb348 hg w16 hbox hb; have n0_ := Aside0.mk (below_step (kB HB) hb); have n1_ := Aside0.mk (hbox); have n2_ := Aside0.mk ((by rw [hg]; exact (below_size (kB HB)) : w.heap.size ≤ gb348)); have n3_ := Aside0.mk ((by rw [hg]; exact (below_size (kB HB)) : w.heap.size ≤ gb348)); clear HB; have HB := n0_; have BK348 := n1_; have GW348 := n2_; have GE348 := n3_; clear n0_ n1_ n2_ n3_; clear hb hbox hg; have hcz17_0 : w16.cell? ⟨gb348, 0, none⟩ = some (.string a0_0) := (blk_cell BK348.out 0).trans rfl; have hcz17_1 : w16.cell? ⟨gb348, 1, none⟩ = some (.int .i64 a0_1) := (blk_cell BK348.out 1).trans rfl; have hcz17_2 : w16.cell? ⟨gb348, 2, none⟩ = some (.int .i64 a0_2) := (blk_cell BK348.out 2).trans rfl; have hcz17_3 : w16.cell? ⟨gb348, 3, none⟩ = some (.int .i64 a0_3) := (blk_cell BK348.out 3).trans rfl; have hcz17_4 : w16.cell? ⟨gb348, 4, none⟩ = some (.int .i64 a0_4) := (blk_cell BK348.out 4).trans rfl; have hcz17_5 : w16.cell? ⟨gb348, 5, none⟩ = some (.int .i64 a0_5) := (blk_cell BK348.out 5).trans rfl; have hcz17_6 : w16.cell? ⟨gb348, 6, none⟩ = some (.int .i64 a0_6) := (blk_cell BK348.out 6).trans rfl; have hcz17_7 : w16.cell? ⟨gb348, 7, none⟩ = some (.int .i64 a0_7) := (blk_cell BK348.out 7).trans rfl; have hfz17_0 := blk_frozen BK348.out 0; have hfz17_1 := blk_frozen BK348.out 1; have hfz17_2 := blk_frozen BK348.out 2; have hfz17_3 := blk_frozen BK348.out 3; have hfz17_4 := blk_frozen BK348.out 4; have hfz17_5 := blk_frozen BK348.out 5; have hfz17_6 := blk_frozen BK348.out 6; have hfz17_7 := blk_frozen BK348.out 7) | ((with_reducible refine gate_callee (f := 46) rfl ?_); refine goesL_ (some 5) rfl rfl Try.func46 (by kernel_rfl) rfl #[.int .i64 a0_2, .int .i64 1, .int .i64 7] rfl tL ?_; (with_reducible refine (r04_inside.calls a0_2 1 7 true _ A2.out).mono ?_); rintro e w' ⟨rfl, ⟨nd, rfl⟩⟩; refine ⟨_, rfl, ?_⟩) | (go_at_call 46; (with_reducible refine (r04_inside.calls a0_3 1 80 true _ A4.out).mono ?_); rintro e w' ⟨rfl, ⟨nd, rfl⟩⟩) | (go_at_call 46; (with_reducible refine (r04_inside.calls a0_4 a0_3 80 true _ A6.out).mono ?_); rintro e w' ⟨rfl, ⟨nd, rfl⟩⟩) | (go_at_call 46; (with_reducible refine (r04_inside.calls a0_5 1 80 false _ A8.out).mono ?_); rintro e w' ⟨rfl, ⟨nd, rfl⟩⟩))
  go_ret
  exact ⟨by first | rfl | (simp [errW_none, errW_some] <;> rfl) | (simp [*, errW_none, errW_some] <;> rfl), kB1 HB GE348⟩
 subst c9
 have H1 : (if a0_6 = 0 then (some true) else ((r04_inside.f a0_6 a0_3 a0_4).bind fun t353 => (some t353))) = some r := by rw [if_pos rfl] at H; exact H
 clear H
 have H := H1
 clear H1
 by_cases c10 : a0_6 = 0
 ·rw [if_pos c10] at H
  have c10b0 : (a0_6 == 0) = true := beq_iff_eq.mpr c10
  have c10b1 : (a0_6 != 0) = false := bne_eq_false_iff_eq.mpr c10
  clear c10
  obtain rfl := Option.some.inj H
  go_enter Try.func49, Try.ntmps49
  go_wp2_with (first | ((with_reducible refine gate_dst (N := 1) rfl ?_); refine box_event ?hg (N := 1) ?hd (cs := #[.string a0_0, .int .i64 a0_1, .int .i64 a0_2, .int .i64 a0_3, .int .i64 a0_4, .int .i64 a0_5, .int .i64 a0_6, .int .i64 a0_7]) (t := 42) ?hr ?_; (case hd => rfl); (case hg => rfl); (case hr => first | (go_simp; done) | (go_simp; rfl)); intro gb348 hg w11 hbox hb; have n0_ := Aside0.mk (below_step (kB HB) hb); have n1_ := Aside0.mk (hbox); have n2_ := Aside0.mk ((by rw [hg]; exact (below_size (kB HB)) : w.heap.size ≤ gb348)); have n3_ := Aside0.mk ((by rw [hg]; exact (below_size (kB HB)) : w.heap.size ≤ gb348)); clear HB; have HB := n0_; have BK348 := n1_; have GW348 := n2_; have GE348 := n3_; clear n0_ n1_ n2_ n3_; clear hb hbox hg; have hcz12_0 : w11.cell? ⟨gb348, 0, none⟩ = some (.string a0_0) := (blk_cell BK348.out 0).trans rfl; have hcz12_1 : w11.cell? ⟨gb348, 1, none⟩ = some (.int .i64 a0_1) := (blk_cell BK348.out 1).trans rfl; have hcz12_2 : w11.cell? ⟨gb348, 2, none⟩ = some (.int .i64 a0_2) := (blk_cell BK348.out 2).trans rfl; have hcz12_3 : w11.cell? ⟨gb348, 3, none⟩ = some (.int .i64 a0_3) := (blk_cell BK348.out 3).trans rfl; have hcz12_4 : w11.cell? ⟨gb348, 4, none⟩ = some (.int .i64 a0_4) := (blk_cell BK348.out 4).trans rfl; have hcz12_5 : w11.cell? ⟨gb348, 5, none⟩ = some (.int .i64 a0_5) := (blk_cell BK348.out 5).trans rfl; have hcz12_6 : w11.cell? ⟨gb348, 6, none⟩ = some (.int .i64 a0_6) := (blk_cell BK348.out 6).trans rfl; have hcz12_7 : w11.cell? ⟨gb348, 7, none⟩ = some (.int .i64 a0_7) := (blk_cell BK348.out 7).trans rfl; have hfz12_0 := blk_frozen BK348.out 0; have hfz12_1 := blk_frozen BK348.out 1; have hfz12_2 := blk_frozen BK348.out 2; have hfz12_3 := blk_frozen BK348.out 3; have hfz12_4 := blk_frozen BK348.out 4; have hfz12_5 := blk_frozen BK348.out 5; have hfz12_6 := blk_frozen BK348.out 6; have hfz12_7 := blk_frozen BK348.out 7) | ((with_reducible refine gate_callee (f := 46) rfl ?_); refine goesL_ (some 5) rfl rfl Try.func46 (by kernel_rfl) rfl #[.int .i64 a0_2, .int .i64 1, .int .i64 7] rfl tL ?_; (with_reducible refine (r04_inside.calls a0_2 1 7 true _ A2.out).mono ?_); rintro e w' ⟨rfl, ⟨nd, rfl⟩⟩; refine ⟨_, rfl, ?_⟩) | (go_at_call 46; (with_reducible refine (r04_inside.calls a0_3 1 80 true _ A4.out).mono ?_); rintro e w' ⟨rfl, ⟨nd, rfl⟩⟩) | (go_at_call 46; (with_reducible refine (r04_inside.calls a0_4 a0_3 80 true _ A6.out).mono ?_); rintro e w' ⟨rfl, ⟨nd, rfl⟩⟩) | (go_at_call 46; (with_reducible refine (r04_inside.calls a0_5 1 80 true _ A8.out).mono ?_); rintro e w' ⟨rfl, ⟨nd, rfl⟩⟩))
  go_ret
  exact ⟨by first | rfl | (simp [errW_none, errW_some] <;> rfl) | (simp [*, errW_none, errW_some] <;> rfl), kB1 HB GE348⟩
 rw [if_neg c10] at H
 have c10b0 : (a0_6 == 0) = false := beq_eq_false_iff_ne.mpr c10
 have c10b1 : (a0_6 != 0) = true := bne_iff_ne.mpr c10
 replace H := Option.bind_eq_some_iff.mp H
 obtain ⟨t353, A130, H⟩ := H
 replace H : (some t353) = some r := H
 have A13 := Aside0.mk A130
 clear A130
 obtain rfl := Option.some.inj H
 go_enter Try.func49, Try.ntmps49
 go_wp2_with (first | ((with_reducible refine gate_dst (N := 1) rfl ?_); refine box_event ?hg (N := 1) ?hd (cs := #[.string a0_0, .int .i64 a0_1, .int .i64 a0_2, .int .i64 a0_3, .int .i64 a0_4, .int .i64 a0_5, .int .i64 a0_6, .int .i64 a0_7]) (t := 42) ?hr ?_; (case hd => rfl); (case hg => rfl); (case hr => first | (go_simp; done) | (go_simp; rfl)); intro gb348 hg w14 hbox hb; have n0_ := Aside0.mk (below_step (kB HB) hb); have n1_ := Aside0.mk (hbox); have n2_ := Aside0.mk ((by rw [hg]; exact (below_size (kB HB)) : w.heap.size ≤ gb348)); have n3_ := Aside0.mk ((by rw [hg]; exact (below_size (kB HB)) : w.heap.size ≤ gb348)); clear HB; have HB := n0_; have BK348 := n1_; have GW348 := n2_; have GE348 := n3_; clear n0_ n1_ n2_ n3_; clear hb hbox hg; have hcz15_0 : w14.cell? ⟨gb348, 0, none⟩ = some (.string a0_0) := (blk_cell BK348.out 0).trans rfl; have hcz15_1 : w14.cell? ⟨gb348, 1, none⟩ = some (.int .i64 a0_1) := (blk_cell BK348.out 1).trans rfl; have hcz15_2 : w14.cell? ⟨gb348, 2, none⟩ = some (.int .i64 a0_2) := (blk_cell BK348.out 2).trans rfl; have hcz15_3 : w14.cell? ⟨gb348, 3, none⟩ = some (.int .i64 a0_3) := (blk_cell BK348.out 3).trans rfl; have hcz15_4 : w14.cell? ⟨gb348, 4, none⟩ = some (.int .i64 a0_4) := (blk_cell BK348.out 4).trans rfl; have hcz15_5 : w14.cell? ⟨gb348, 5, none⟩ = some (.int .i64 a0_5) := (blk_cell BK348.out 5).trans rfl; have hcz15_6 : w14.cell? ⟨gb348, 6, none⟩ = some (.int .i64 a0_6) := (blk_cell BK348.out 6).trans rfl; have hcz15_7 : w14.cell? ⟨gb348, 7, none⟩ = some (.int .i64 a0_7) := (blk_cell BK348.out 7).trans rfl; have hfz15_0 := blk_frozen BK348.out 0; have hfz15_1 := blk_frozen BK348.out 1; have hfz15_2 := blk_frozen BK348.out 2; have hfz15_3 := blk_frozen BK348.out 3; have hfz15_4 := blk_frozen BK348.out 4; have hfz15_5 := blk_frozen BK348.out 5; have hfz15_6 := blk_frozen BK348.out 6; have hfz15_7 := blk_frozen BK348.out 7) | ((with_reducible refine gate_callee (f := 46) rfl ?_); refine goesL_ (some 5) rfl rfl Try.func46 (by kernel_rfl) rfl #[.int .i64 a0_2, .int .i64 1, .int .i64 7] rfl tL ?_; (with_reducible refine (r04_inside.calls a0_2 1 7 true _ A2.out).mono ?_); rintro e w' ⟨rfl, ⟨nd, rfl⟩⟩; refine ⟨_, rfl, ?_⟩) | (go_at_call 46; (with_reducible refine (r04_inside.calls a0_3 1 80 true _ A4.out).mono ?_); rintro e w' ⟨rfl, ⟨nd, rfl⟩⟩) | (go_at_call 46; (with_reducible refine (r04_inside.calls a0_4 a0_3 80 true _ A6.out).mono ?_); rintro e w' ⟨rfl, ⟨nd, rfl⟩⟩) | (go_at_call 46; (with_reducible refine (r04_inside.calls a0_5 1 80 true _ A8.out).mono ?_); rintro e w' ⟨rfl, ⟨nd, rfl⟩⟩) | (go_at_call 46; (with_reducible refine (r04_inside.calls a0_6 a0_3 a0_4 t353 _ A13.out).mono ?_); rintro e w' ⟨rfl, ⟨nd, rfl⟩⟩))
 go_ret
 exact ⟨by first | rfl | (simp [errW_none, errW_some] <;> rfl) | (simp [*, errW_none, errW_some] <;> rfl), kB1 HB GE348⟩
end Go.Proofs.Ytpdmnineampimaa.Q
