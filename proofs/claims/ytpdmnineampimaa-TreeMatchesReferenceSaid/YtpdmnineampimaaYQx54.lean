import Derived.Test.YtpdmnineampimaaYe
import Derived.Test.YtpdmnineampimaaYQx27
set_option linter.unusedVariables false
set_option linter.unusedSimpArgs false
namespace Go.Proofs.Ytpdmnineampimaa.Q
open Go.RowKit Go.Proofs.YtpdmnineampimaaW.PrintWords Go.Proofs.YtpdmnineampimaaW.PrintLast Go.Proofs.YtpdmnineampimaaW.PrintMore
attribute [local go_sem] max2_int min2_int max_two min_two max_three min_three max_four min_four
def w08_loads.f (l0_0 : List (S48)) (l0_1 : List (S62)) (l0_2 : List (S84)) (l0_3 : List (S42)) (l0_4 : List (S87)) (l1 : List Int) : Option ((List (S55)) × Bool) := (tree_Loads.f l0_0 l0_1 l0_2 l0_3 l0_4 l1).bind fun bt482 => (if bt482.2 = 0 then (some (bt482.1, ((bt482.1.length : Int) == (l0_0.length : Int)))) else (some (bt482.1, false)))
set_option maxHeartbeats 8000000 in
set_option maxRecDepth 100000 in
theorem w08_loads.calls (A0_0 : Option Addr) (c0_0 : Nat) (l0_0 : List (S48)) (A0_1 : Option Addr) (c0_1 : Nat) (l0_1 : List (S62)) (A0_2 : Option Addr) (c0_2 : Nat) (l0_2 : List (S84)) (A0_3 : Option Addr) (c0_3 : Nat) (l0_3 : List (S42)) (A0_4 : Option Addr) (c0_4 : Nat) (l0_4 : List (S87)) (A1 : Option Addr) (c1 : Nat) (l1 : List Int) (r1 : List (S55)) (r2 : Bool) (w : World) (hr0_0 : Kd.C k48 w A0_0 l0_0.length l0_0) (hc0_0 : l0_0.length ≤ c0_0) (hr0_1 : Kd.C k62 w A0_1 l0_1.length l0_1) (hc0_1 : l0_1.length ≤ c0_1) (hr0_2 : Kd.C k84 w A0_2 l0_2.length l0_2) (hc0_2 : l0_2.length ≤ c0_2) (hr0_3 : Kd.C k42 w A0_3 l0_3.length l0_3) (hc0_3 : l0_3.length ≤ c0_3) (hr0_4 : Kd.C k87 w A0_4 l0_4.length l0_4) (hc0_4 : l0_4.length ≤ c0_4) (hr1 : Kd.C (Kd.int .i64) w A1 l1.length l1) (hc1 : l1.length ≤ c1) (h : w08_loads.f l0_0 l0_1 l0_2 l0_3 l0_4 l1 = some (r1, r2)) :
    Calls Try.prog 23 #[.agg #[.slice A0_0 l0_0.length c0_0, .slice A0_1 l0_1.length c0_1, .slice A0_2 l0_2.length c0_2, .slice A0_3 l0_3.length c0_3, .slice A0_4 l0_4.length c0_4], .slice A1 l1.length c1] w fun e w' => ∃ v0_ : Value, e = .returned (.tuple #[v0_, .bool r2]) ∧ Kd.R k55 55 w' w.heap.size (fun _ => True) v0_ r1 ∧ Below w.heap.size w w' := by
 have hu28 := Try.underlying28
 have HR0_0 := Aside0.mk hr0_0
 have HC0_0 := Aside0.mk hc0_0
 clear hr0_0 hc0_0
 have HR0_1 := Aside0.mk hr0_1
 have HC0_1 := Aside0.mk hc0_1
 clear hr0_1 hc0_1
 have HR0_2 := Aside0.mk hr0_2
 have HC0_2 := Aside0.mk hc0_2
 clear hr0_2 hc0_2
 have HR0_3 := Aside0.mk hr0_3
 have HC0_3 := Aside0.mk hc0_3
 clear hr0_3 hc0_3
 have HR0_4 := Aside0.mk hr0_4
 have HC0_4 := Aside0.mk hc0_4
 clear hr0_4 hc0_4
 have HR1 := Aside0.mk hr1
 have HC1 := Aside0.mk hc1
 clear hr1 hc1
 have HB := Aside0.mk (Below.refl w.heap.size w)
 (try unfold w08_loads.f at h)
 have H := h
 clear h
 replace H := Option.bind_eq_some_iff.mp H
 obtain ⟨⟨t482, t485⟩, A30, H⟩ := H
 replace H : (if t485 = 0 then (some (t482, ((t482.length : Int) == (l0_0.length : Int)))) else (some (t482, false))) = some (r1, r2) := H
 have A3 := Aside0.mk A30
 clear A30
 by_cases c4 : t485 = 0
 rotate_left
 ·rw [if_neg c4] at H
  have c4b0 : (t485 == 0) = false := beq_eq_false_iff_ne.mpr c4
  have c4b1 : (t485 != 0) = true := bne_iff_ne.mpr c4
  simp only [Option.some.injEq, Prod.mk.injEq] at H
  obtain ⟨rfl, rfl⟩ := H
  go_enter Try.func23, Try.ntmps23
  go_wp2_with (first | ((with_reducible refine gate_dst (N := 2) rfl ?_); (try (refine gate_guard (by rfl) ?_; dsimp only)); refine bE 2 28 #[.slice A0_0 l0_0.length c0_0, .slice A0_1 l0_1.length c0_1, .slice A0_2 l0_2.length c0_2, .slice A0_3 l0_3.length c0_3, .slice A0_4 l0_4.length c0_4] ?_; intro gb481 hg w10 hbox hb; have BK481 := Aside0.mk hbox; have GW481 := gE hg (kB HB); have GE481 := gE hg (kB HB); replace HB := bS (kB HB) hb; clear hb hbox hg; obtain ⟨⟨_,_,_,_,_⟩,_,_,_,_,_⟩ := bx5 BK481) | (go_at_call 14; (with_reducible refine (tree_Loads.calls _ _ l0_0 _ _ l0_1 _ _ l0_2 _ _ l0_3 _ _ l0_4 _ _ l1 t482 t485 _ (sC HR0_0 HB) HC0_0.out (sC HR0_1 HB) HC0_1.out (sC HR0_2 HB) HC0_2.out (sC HR0_3 HB) HC0_3.out (sC HR0_4 HB) HC0_4.out (sC HR1 HB) HC1.out A3.out).mono ?_); rintro e w12 ⟨v483, rfl, ho0, hb⟩; have HO484 := Aside0.mk (Kd.R_lower ho0 (below_size (kB1 HB GE481))); replace BK481 := bK BK481 hb; replace HB := bS (kB1 HB GE481) hb))
  repeat (go_quiet (first | (go_at_call 14; (with_reducible refine (tree_Loads.calls _ _ l0_0 _ _ l0_1 _ _ l0_2 _ _ l0_3 _ _ l0_4 _ _ l1 t482 t485 _ (sC HR0_0 HB) HC0_0.out (sC HR0_1 HB) HC0_1.out (sC HR0_2 HB) HC0_2.out (sC HR0_3 HB) HC0_3.out (sC HR0_4 HB) HC0_4.out (sC HR1 HB) HC1.out A3.out).mono ?_); rintro e w12 ⟨v483, rfl, ho0, hb⟩; have HO484 := Aside0.mk (Kd.R_lower ho0 (below_size (kB1 HB GE481))); replace BK481 := bK BK481 hb; replace HB := bS (kB1 HB GE481) hb)); try go_wp2_with (first | (go_at_call 14; (with_reducible refine (tree_Loads.calls _ _ l0_0 _ _ l0_1 _ _ l0_2 _ _ l0_3 _ _ l0_4 _ _ l1 t482 t485 _ (sC HR0_0 HB) HC0_0.out (sC HR0_1 HB) HC0_1.out (sC HR0_2 HB) HC0_2.out (sC HR0_3 HB) HC0_3.out (sC HR0_4 HB) HC0_4.out (sC HR1 HB) HC1.out A3.out).mono ?_); rintro e w12 ⟨v483, rfl, ho0, hb⟩; have HO484 := Aside0.mk (Kd.R_lower ho0 (below_size (kB1 HB GE481))); replace BK481 := bK BK481 hb; replace HB := bS (kB1 HB GE481) hb)))
  go_ret2
  exact ⟨_, tE, by (with_reducible repeat (first | apply Kd.R_alloc | apply Kd.R_drewN | apply Kd.R_drew)); exact HO484.out, kB1 HB GE481⟩
 rw [if_pos c4] at H
 have c4b0 : (t485 == 0) = true := beq_iff_eq.mpr c4
 have c4b1 : (t485 != 0) = false := bne_eq_false_iff_eq.mpr c4
 clear c4
 simp only [Option.some.injEq, Prod.mk.injEq] at H
 obtain ⟨rfl, rfl⟩ := H
 go_enter Try.func23, Try.ntmps23
 go_wp2_with (first | ((with_reducible refine gate_dst (N := 2) rfl ?_); (try (refine gate_guard (by rfl) ?_; dsimp only)); refine bE 2 28 #[.slice A0_0 l0_0.length c0_0, .slice A0_1 l0_1.length c0_1, .slice A0_2 l0_2.length c0_2, .slice A0_3 l0_3.length c0_3, .slice A0_4 l0_4.length c0_4] ?_; intro gb481 hg w5 hbox hb; have BK481 := Aside0.mk hbox; have GW481 := gE hg (kB HB); have GE481 := gE hg (kB HB); replace HB := bS (kB HB) hb; clear hb hbox hg; obtain ⟨⟨_,_,_,_,_⟩,_,_,_,_,_⟩ := bx5 BK481) | (go_at_call 14; (with_reducible refine (tree_Loads.calls _ _ l0_0 _ _ l0_1 _ _ l0_2 _ _ l0_3 _ _ l0_4 _ _ l1 t482 t485 _ (sC HR0_0 HB) HC0_0.out (sC HR0_1 HB) HC0_1.out (sC HR0_2 HB) HC0_2.out (sC HR0_3 HB) HC0_3.out (sC HR0_4 HB) HC0_4.out (sC HR1 HB) HC1.out A3.out).mono ?_); rintro e w7 ⟨v483, rfl, ho0, hb⟩; have HO484 := Aside0.mk (Kd.R_lower ho0 (below_size (kB1 HB GE481))); replace BK481 := bK BK481 hb; replace HB := bS (kB1 HB GE481) hb; obtain ⟨Ao8, co8, eo8⟩ := Kd.R_slice HO484.out; subst eo8; obtain ⟨⟨hcz9_0,hcz9_1,hcz9_2,hcz9_3,hcz9_4⟩,hfz9_0,hfz9_1,hfz9_2,hfz9_3,hfz9_4⟩ := bx5 BK481))
 repeat (go_quiet (first | (go_at_call 14; (with_reducible refine (tree_Loads.calls _ _ l0_0 _ _ l0_1 _ _ l0_2 _ _ l0_3 _ _ l0_4 _ _ l1 t482 t485 _ (sC HR0_0 HB) HC0_0.out (sC HR0_1 HB) HC0_1.out (sC HR0_2 HB) HC0_2.out (sC HR0_3 HB) HC0_3.out (sC HR0_4 HB) HC0_4.out (sC HR1 HB) HC1.out A3.out).mono ?_); rintro e w7 ⟨v483, rfl, ho0, hb⟩; have HO484 := Aside0.mk (Kd.R_lower ho0 (below_size (kB1 HB GE481))); replace BK481 := bK BK481 hb; replace HB := bS (kB1 HB GE481) hb; obtain ⟨Ao8, co8, eo8⟩ := Kd.R_slice HO484.out; subst eo8; obtain ⟨⟨hcz9_0,hcz9_1,hcz9_2,hcz9_3,hcz9_4⟩,hfz9_0,hfz9_1,hfz9_2,hfz9_3,hfz9_4⟩ := bx5 BK481)); try go_wp2_with (first | (go_at_call 14; (with_reducible refine (tree_Loads.calls _ _ l0_0 _ _ l0_1 _ _ l0_2 _ _ l0_3 _ _ l0_4 _ _ l1 t482 t485 _ (sC HR0_0 HB) HC0_0.out (sC HR0_1 HB) HC0_1.out (sC HR0_2 HB) HC0_2.out (sC HR0_3 HB) HC0_3.out (sC HR0_4 HB) HC0_4.out (sC HR1 HB) HC1.out A3.out).mono ?_); rintro e w7 ⟨v483, rfl, ho0, hb⟩; have HO484 := Aside0.mk (Kd.R_lower ho0 (below_size (kB1 HB GE481))); replace BK481 := bK BK481 hb; replace HB := bS (kB1 HB GE481) hb; obtain ⟨Ao8, co8, eo8⟩ := Kd.R_slice HO484.out; subst eo8; obtain ⟨⟨hcz9_0,hcz9_1,hcz9_2,hcz9_3,hcz9_4⟩,hfz9_0,hfz9_1,hfz9_2,hfz9_3,hfz9_4⟩ := bx5 BK481)))
 go_ret2
 exact ⟨_, tE, by (with_reducible repeat (first | apply Kd.R_alloc | apply Kd.R_drewN | apply Kd.R_drew)); exact HO484.out, kB1 HB GE481⟩
end Go.Proofs.Ytpdmnineampimaa.Q
