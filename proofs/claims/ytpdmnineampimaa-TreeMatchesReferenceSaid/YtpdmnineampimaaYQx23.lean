import Derived.Test.YtpdmnineampimaaYe
import Derived.Test.YtpdmnineampimaaYQx21
set_option linter.unusedVariables false
set_option linter.unusedSimpArgs false
namespace Go.Proofs.Ytpdmnineampimaa.Q
open Go.RowKit Go.Proofs.YtpdmnineampimaaW.PrintWords Go.Proofs.YtpdmnineampimaaW.PrintLast Go.Proofs.YtpdmnineampimaaW.PrintMore
attribute [local go_sem] max2_int min2_int max_two min_two max_three min_three max_four min_four
def site_charger.f (a0_0 : ByteArray) (a0_1 : Int) (a0_2 : Int) (a0_3 : Int) (a0_4 : Int) (a0_5 : Int) (a0_6 : Int) (a0_7 : Int) (l1_0 : List (S48)) (l1_1 : List (S62)) (l1_2 : List (S84)) (l1_3 : List (S42)) (l1_4 : List (S87)) : Option (Bool) := (site_inside.f a0_1 0 (wrap64 ((l1_0.length : Int) - 1))).bind fun t121 => (if t121 = true then ((site_inside.f a0_7 0 (wrap64 ((l1_1.length : Int) - 1))).bind fun t122 => (if t122 = true then ((site_inside.f a0_2 1 7).bind fun t123 => (if t123 = true then ((site_inside.f a0_3 1 80).bind fun t124 => (if t124 = true then ((site_inside.f a0_4 a0_3 80).bind fun t125 => (if t125 = true then ((site_inside.f a0_5 1 80).bind fun t126 => (if t126 = true then (if a0_6 = 0 then (some true) else ((site_inside.f a0_6 a0_3 a0_4).bind fun t127 => (some t127))) else (some false))) else (some false))) else (some false))) else (some false))) else (some false))) else (some false))
set_option maxHeartbeats 8000000 in
set_option maxRecDepth 100000 in
theorem site_charger.calls (a0_0 : ByteArray) (a0_1 : Int) (a0_2 : Int) (a0_3 : Int) (a0_4 : Int) (a0_5 : Int) (a0_6 : Int) (a0_7 : Int) (A1_0 : Option Addr) (c1_0 : Nat) (l1_0 : List (S48)) (A1_1 : Option Addr) (c1_1 : Nat) (l1_1 : List (S62)) (A1_2 : Option Addr) (c1_2 : Nat) (l1_2 : List (S84)) (A1_3 : Option Addr) (c1_3 : Nat) (l1_3 : List (S42)) (A1_4 : Option Addr) (c1_4 : Nat) (l1_4 : List (S87)) (r : Bool) (w : World) (hr1_0 : Kd.C k48 w A1_0 l1_0.length l1_0) (hc1_0 : l1_0.length ≤ c1_0) (hr1_1 : Kd.C k62 w A1_1 l1_1.length l1_1) (hc1_1 : l1_1.length ≤ c1_1) (hr1_2 : Kd.C k84 w A1_2 l1_2.length l1_2) (hc1_2 : l1_2.length ≤ c1_2) (hr1_3 : Kd.C k42 w A1_3 l1_3.length l1_3) (hc1_3 : l1_3.length ≤ c1_3) (hr1_4 : Kd.C k87 w A1_4 l1_4.length l1_4) (hc1_4 : l1_4.length ≤ c1_4) (h : site_charger.f a0_0 a0_1 a0_2 a0_3 a0_4 a0_5 a0_6 a0_7 l1_0 l1_1 l1_2 l1_3 l1_4 = some r) :
    Calls Try.prog 43 #[.agg #[.string a0_0, .int .i64 a0_1, .int .i64 a0_2, .int .i64 a0_3, .int .i64 a0_4, .int .i64 a0_5, .int .i64 a0_6, .int .i64 a0_7], .agg #[.slice A1_0 l1_0.length c1_0, .slice A1_1 l1_1.length c1_1, .slice A1_2 l1_2.length c1_2, .slice A1_3 l1_3.length c1_3, .slice A1_4 l1_4.length c1_4]] w fun e w' => e = .returned (.bool r) ∧ Below w.heap.size w w' := by
 have hu42 := Try.underlying42
 have hu28 := Try.underlying28
 have HR1_0 := Aside0.mk hr1_0
 have HC1_0 := Aside0.mk hc1_0
 clear hr1_0 hc1_0
 have HR1_1 := Aside0.mk hr1_1
 have HC1_1 := Aside0.mk hc1_1
 clear hr1_1 hc1_1
 have HR1_2 := Aside0.mk hr1_2
 have HC1_2 := Aside0.mk hc1_2
 clear hr1_2 hc1_2
 have HR1_3 := Aside0.mk hr1_3
 have HC1_3 := Aside0.mk hc1_3
 clear hr1_3 hc1_3
 have HR1_4 := Aside0.mk hr1_4
 have HC1_4 := Aside0.mk hc1_4
 clear hr1_4 hc1_4
 have HB := Aside0.mk (Below.refl w.heap.size w)
 (try unfold site_charger.f at h)
 have H := h
 clear h
 obtain ⟨t121, A3, H⟩ := bnd H
 by_cases c4 : t121 = true
 rotate_left
 ·replace c4 := Bool.eq_false_iff.mpr c4
  subst c4
  replace H := ifF H
  obtain rfl := Option.some.inj H
  go_enter Try.func43, Try.ntmps43
  go_wp2_with (first | ((with_reducible refine gate_dst (N := 2) rfl ?_); (try (refine gate_guard (by rfl) ?_; dsimp only)); refine bE 2 42 #[.string a0_0, .int .i64 a0_1, .int .i64 a0_2, .int .i64 a0_3, .int .i64 a0_4, .int .i64 a0_5, .int .i64 a0_6, .int .i64 a0_7] ?_; intro gb119 hg w52 hbox hb; have BK119 := Aside0.mk hbox; have GW119 := gE hg (kB HB); have GE119 := gE hg (kB HB); replace HB := bS (kB HB) hb; clear hb hbox hg) | ((with_reducible refine gate_dst (N := 3) rfl ?_); (try (refine gate_guard (by rfl) ?_; dsimp only)); refine bE 3 28 #[.slice A1_0 l1_0.length c1_0, .slice A1_1 l1_1.length c1_1, .slice A1_2 l1_2.length c1_2, .slice A1_3 l1_3.length c1_3, .slice A1_4 l1_4.length c1_4] ?_; intro gb120 hg w53 hbox hb; have BK120 := Aside0.mk hbox; have GW120 := gE hg (kB1 HB GE119); have GE120 := gE hg (kB1 HB GE119); replace HB := bS (kB1 HB GE119) hb; have NB119_120 := nL hg BK119; have NB120_119 := nG hg BK119; replace BK119 := bK BK119 hb; clear hb hbox hg; have hnb54 := NB119_120.out; have hnc54 := NB120_119.out; obtain ⟨⟨_,_,_,_,_,_,_,_⟩,_,_,_,_,_,_,_,_⟩ := bx8 BK119; obtain ⟨⟨_,_,_,_,_⟩,_,_,_,_,_⟩ := bx5 BK120) | ((with_reducible refine gate_callee (f := 38) rfl ?_); refine gL (some 11) Try.func38 #[.int .i64 a0_1, .int .i64 0, .int .i64 (wrap64 ((l1_0.length : Int) - 1))] (site_inside.calls a0_1 0 (wrap64 ((l1_0.length : Int) - 1)) false _ A3.out) ?_; rintro e w' ⟨rfl, ⟨nd, rfl⟩⟩; refine ⟨_, rfl, ?_⟩))
  go_ret
  exact ⟨tE, kB2 HB GE119 GE120⟩
 subst c4
 replace H := ifT H
 obtain ⟨t122, A5, H⟩ := bnd H
 by_cases c6 : t122 = true
 rotate_left
 ·replace c6 := Bool.eq_false_iff.mpr c6
  subst c6
  replace H := ifF H
  obtain rfl := Option.some.inj H
  go_enter Try.func43, Try.ntmps43
  go_wp2_with (first | ((with_reducible refine gate_dst (N := 2) rfl ?_); (try (refine gate_guard (by rfl) ?_; dsimp only)); refine bE 2 42 #[.string a0_0, .int .i64 a0_1, .int .i64 a0_2, .int .i64 a0_3, .int .i64 a0_4, .int .i64 a0_5, .int .i64 a0_6, .int .i64 a0_7] ?_; intro gb119 hg w47 hbox hb; have BK119 := Aside0.mk hbox; have GW119 := gE hg (kB HB); have GE119 := gE hg (kB HB); replace HB := bS (kB HB) hb; clear hb hbox hg) | ((with_reducible refine gate_dst (N := 3) rfl ?_); (try (refine gate_guard (by rfl) ?_; dsimp only)); refine bE 3 28 #[.slice A1_0 l1_0.length c1_0, .slice A1_1 l1_1.length c1_1, .slice A1_2 l1_2.length c1_2, .slice A1_3 l1_3.length c1_3, .slice A1_4 l1_4.length c1_4] ?_; intro gb120 hg w48 hbox hb; have BK120 := Aside0.mk hbox; have GW120 := gE hg (kB1 HB GE119); have GE120 := gE hg (kB1 HB GE119); replace HB := bS (kB1 HB GE119) hb; have NB119_120 := nL hg BK119; have NB120_119 := nG hg BK119; replace BK119 := bK BK119 hb; clear hb hbox hg; have hnb49 := NB119_120.out; have hnc49 := NB120_119.out; obtain ⟨⟨_,_,_,_,_,_,_,_⟩,_,_,_,_,_,_,_,_⟩ := bx8 BK119; obtain ⟨⟨_,_,_,_,_⟩,_,_,_,_,_⟩ := bx5 BK120) | ((with_reducible refine gate_callee (f := 38) rfl ?_); refine gL (some 11) Try.func38 #[.int .i64 a0_1, .int .i64 0, .int .i64 (wrap64 ((l1_0.length : Int) - 1))] (site_inside.calls a0_1 0 (wrap64 ((l1_0.length : Int) - 1)) true _ A3.out) ?_; rintro e w' ⟨rfl, ⟨nd, rfl⟩⟩; refine ⟨_, rfl, ?_⟩) | (go_at_call 38; (with_reducible refine (site_inside.calls a0_7 0 (wrap64 ((l1_1.length : Int) - 1)) false _ A5.out).mono ?_); rintro e w' ⟨rfl, ⟨nd, rfl⟩⟩))
  go_ret
  exact ⟨tE, kB2 HB GE119 GE120⟩
 subst c6
 replace H := ifT H
 obtain ⟨t123, A7, H⟩ := bnd H
 by_cases c8 : t123 = true
 rotate_left
 ·replace c8 := Bool.eq_false_iff.mpr c8
  subst c8
  replace H := ifF H
  obtain rfl := Option.some.inj H
  go_enter Try.func43, Try.ntmps43
  go_wp2_with (first | ((with_reducible refine gate_dst (N := 2) rfl ?_); (try (refine gate_guard (by rfl) ?_; dsimp only)); refine bE 2 42 #[.string a0_0, .int .i64 a0_1, .int .i64 a0_2, .int .i64 a0_3, .int .i64 a0_4, .int .i64 a0_5, .int .i64 a0_6, .int .i64 a0_7] ?_; intro gb119 hg w42 hbox hb; have BK119 := Aside0.mk hbox; have GW119 := gE hg (kB HB); have GE119 := gE hg (kB HB); replace HB := bS (kB HB) hb; clear hb hbox hg) | ((with_reducible refine gate_dst (N := 3) rfl ?_); (try (refine gate_guard (by rfl) ?_; dsimp only)); refine bE 3 28 #[.slice A1_0 l1_0.length c1_0, .slice A1_1 l1_1.length c1_1, .slice A1_2 l1_2.length c1_2, .slice A1_3 l1_3.length c1_3, .slice A1_4 l1_4.length c1_4] ?_; intro gb120 hg w43 hbox hb; have BK120 := Aside0.mk hbox; have GW120 := gE hg (kB1 HB GE119); have GE120 := gE hg (kB1 HB GE119); replace HB := bS (kB1 HB GE119) hb; have NB119_120 := nL hg BK119; have NB120_119 := nG hg BK119; replace BK119 := bK BK119 hb; clear hb hbox hg; have hnb44 := NB119_120.out; have hnc44 := NB120_119.out; obtain ⟨⟨_,_,_,_,_,_,_,_⟩,_,_,_,_,_,_,_,_⟩ := bx8 BK119; obtain ⟨⟨_,_,_,_,_⟩,_,_,_,_,_⟩ := bx5 BK120) | ((with_reducible refine gate_callee (f := 38) rfl ?_); refine gL (some 11) Try.func38 #[.int .i64 a0_1, .int .i64 0, .int .i64 (wrap64 ((l1_0.length : Int) - 1))] (site_inside.calls a0_1 0 (wrap64 ((l1_0.length : Int) - 1)) true _ A3.out) ?_; rintro e w' ⟨rfl, ⟨nd, rfl⟩⟩; refine ⟨_, rfl, ?_⟩) | (go_at_call 38; (with_reducible refine (site_inside.calls a0_7 0 (wrap64 ((l1_1.length : Int) - 1)) true _ A5.out).mono ?_); rintro e w' ⟨rfl, ⟨nd, rfl⟩⟩) | (go_at_call 38; (with_reducible refine (site_inside.calls a0_2 1 7 false _ A7.out).mono ?_); rintro e w' ⟨rfl, ⟨nd, rfl⟩⟩))
  go_ret
  exact ⟨tE, kB2 HB GE119 GE120⟩
 subst c8
 replace H := ifT H
 obtain ⟨t124, A9, H⟩ := bnd H
 by_cases c10 : t124 = true
 rotate_left
 ·replace c10 := Bool.eq_false_iff.mpr c10
  subst c10
  replace H := ifF H
  obtain rfl := Option.some.inj H
  go_enter Try.func43, Try.ntmps43
  go_wp2_with (first | ((with_reducible refine gate_dst (N := 2) rfl ?_); (try (refine gate_guard (by rfl) ?_; dsimp only)); refine bE 2 42 #[.string a0_0, .int .i64 a0_1, .int .i64 a0_2, .int .i64 a0_3, .int .i64 a0_4, .int .i64 a0_5, .int .i64 a0_6, .int .i64 a0_7] ?_; intro gb119 hg w37 hbox hb; have BK119 := Aside0.mk hbox; have GW119 := gE hg (kB HB); have GE119 := gE hg (kB HB); replace HB := bS (kB HB) hb; clear hb hbox hg) | ((with_reducible refine gate_dst (N := 3) rfl ?_); (try (refine gate_guard (by rfl) ?_; dsimp only)); refine bE 3 28 #[.slice A1_0 l1_0.length c1_0, .slice A1_1 l1_1.length c1_1, .slice A1_2 l1_2.length c1_2, .slice A1_3 l1_3.length c1_3, .slice A1_4 l1_4.length c1_4] ?_; intro gb120 hg w38 hbox hb; have BK120 := Aside0.mk hbox; have GW120 := gE hg (kB1 HB GE119); have GE120 := gE hg (kB1 HB GE119); replace HB := bS (kB1 HB GE119) hb; have NB119_120 := nL hg BK119; have NB120_119 := nG hg BK119; replace BK119 := bK BK119 hb; clear hb hbox hg; have hnb39 := NB119_120.out; have hnc39 := NB120_119.out; obtain ⟨⟨_,_,_,_,_,_,_,_⟩,_,_,_,_,_,_,_,_⟩ := bx8 BK119; obtain ⟨⟨_,_,_,_,_⟩,_,_,_,_,_⟩ := bx5 BK120) | ((with_reducible refine gate_callee (f := 38) rfl ?_); refine gL (some 11) Try.func38 #[.int .i64 a0_1, .int .i64 0, .int .i64 (wrap64 ((l1_0.length : Int) - 1))] (site_inside.calls a0_1 0 (wrap64 ((l1_0.length : Int) - 1)) true _ A3.out) ?_; rintro e w' ⟨rfl, ⟨nd, rfl⟩⟩; refine ⟨_, rfl, ?_⟩) | (go_at_call 38; (with_reducible refine (site_inside.calls a0_7 0 (wrap64 ((l1_1.length : Int) - 1)) true _ A5.out).mono ?_); rintro e w' ⟨rfl, ⟨nd, rfl⟩⟩) | (go_at_call 38; (with_reducible refine (site_inside.calls a0_2 1 7 true _ A7.out).mono ?_); rintro e w' ⟨rfl, ⟨nd, rfl⟩⟩) | (go_at_call 38; (with_reducible refine (site_inside.calls a0_3 1 80 false _ A9.out).mono ?_); rintro e w' ⟨rfl, ⟨nd, rfl⟩⟩))
  go_ret
  exact ⟨tE, kB2 HB GE119 GE120⟩
 subst c10
 replace H := ifT H
 obtain ⟨t125, A11, H⟩ := bnd H
 by_cases c12 : t125 = true
 rotate_left
 ·replace c12 := Bool.eq_false_iff.mpr c12
  subst c12
  replace H := ifF H
  obtain rfl := Option.some.inj H
  go_enter Try.func43, Try.ntmps43
  go_wp2_with (first | ((with_reducible refine gate_dst (N := 2) rfl ?_); (try (refine gate_guard (by rfl) ?_; dsimp only)); refine bE 2 42 #[.string a0_0, .int .i64 a0_1, .int .i64 a0_2, .int .i64 a0_3, .int .i64 a0_4, .int .i64 a0_5, .int .i64 a0_6, .int .i64 a0_7] ?_; intro gb119 hg w32 hbox hb; have BK119 := Aside0.mk hbox; have GW119 := gE hg (kB HB); have GE119 := gE hg (kB HB); replace HB := bS (kB HB) hb; clear hb hbox hg) | ((with_reducible refine gate_dst (N := 3) rfl ?_); (try (refine gate_guard (by rfl) ?_; dsimp only)); refine bE 3 28 #[.slice A1_0 l1_0.length c1_0, .slice A1_1 l1_1.length c1_1, .slice A1_2 l1_2.length c1_2, .slice A1_3 l1_3.length c1_3, .slice A1_4 l1_4.length c1_4] ?_; intro gb120 hg w33 hbox hb; have BK120 := Aside0.mk hbox; have GW120 := gE hg (kB1 HB GE119); have GE120 := gE hg (kB1 HB GE119); replace HB := bS (kB1 HB GE119) hb; have NB119_120 := nL hg BK119; have NB120_119 := nG hg BK119; replace BK119 := bK BK119 hb; clear hb hbox hg; have hnb34 := NB119_120.out; have hnc34 := NB120_119.out; obtain ⟨⟨_,_,_,_,_,_,_,_⟩,_,_,_,_,_,_,_,_⟩ := bx8 BK119; obtain ⟨⟨_,_,_,_,_⟩,_,_,_,_,_⟩ := bx5 BK120) | ((with_reducible refine gate_callee (f := 38) rfl ?_); refine gL (some 11) Try.func38 #[.int .i64 a0_1, .int .i64 0, .int .i64 (wrap64 ((l1_0.length : Int) - 1))] (site_inside.calls a0_1 0 (wrap64 ((l1_0.length : Int) - 1)) true _ A3.out) ?_; rintro e w' ⟨rfl, ⟨nd, rfl⟩⟩; refine ⟨_, rfl, ?_⟩) | (go_at_call 38; (with_reducible refine (site_inside.calls a0_7 0 (wrap64 ((l1_1.length : Int) - 1)) true _ A5.out).mono ?_); rintro e w' ⟨rfl, ⟨nd, rfl⟩⟩) | (go_at_call 38; (with_reducible refine (site_inside.calls a0_2 1 7 true _ A7.out).mono ?_); rintro e w' ⟨rfl, ⟨nd, rfl⟩⟩) | (go_at_call 38; (with_reducible refine (site_inside.calls a0_3 1 80 true _ A9.out).mono ?_); rintro e w' ⟨rfl, ⟨nd, rfl⟩⟩) | (go_at_call 38; (with_reducible refine (site_inside.calls a0_4 a0_3 80 false _ A11.out).mono ?_); rintro e w' ⟨rfl, ⟨nd, rfl⟩⟩))
  go_ret
  exact ⟨tE, kB2 HB GE119 GE120⟩
 subst c12
 replace H := ifT H
 obtain ⟨t126, A13, H⟩ := bnd H
 by_cases c14 : t126 = true
 rotate_left
 ·replace c14 := Bool.eq_false_iff.mpr c14
  subst c14
  replace H := ifF H
  obtain rfl := Option.some.inj H
  go_enter Try.func43, Try.ntmps43
  go_wp2_with (first | ((with_reducible refine gate_dst (N := 2) rfl ?_); (try (refine gate_guard (by rfl) ?_; dsimp only)); refine bE 2 42 #[.string a0_0, .int .i64 a0_1, .int .i64 a0_2, .int .i64 a0_3, .int .i64 a0_4, .int .i64 a0_5, .int .i64 a0_6, .int .i64 a0_7] ?_; intro gb119 hg w27 hbox hb; have BK119 := Aside0.mk hbox; have GW119 := gE hg (kB HB); have GE119 := gE hg (kB HB); replace HB := bS (kB HB) hb; clear hb hbox hg) | ((with_reducible refine gate_dst (N := 3) rfl ?_); (try (refine gate_guard (by rfl) ?_; dsimp only)); refine bE 3 28 #[.slice A1_0 l1_0.length c1_0, .slice A1_1 l1_1.length c1_1, .slice A1_2 l1_2.length c1_2, .slice A1_3 l1_3.length c1_3, .slice A1_4 l1_4.length c1_4] ?_; intro gb120 hg w28 hbox hb; have BK120 := Aside0.mk hbox; have GW120 := gE hg (kB1 HB GE119); have GE120 := gE hg (kB1 HB GE119); replace HB := bS (kB1 HB GE119) hb; have NB119_120 := nL hg BK119; have NB120_119 := nG hg BK119; replace BK119 := bK BK119 hb; clear hb hbox hg; have hnb29 := NB119_120.out; have hnc29 := NB120_119.out; obtain ⟨⟨_,_,_,_,_,_,_,_⟩,_,_,_,_,_,_,_,_⟩ := bx8 BK119; obtain ⟨⟨_,_,_,_,_⟩,_,_,_,_,_⟩ := bx5 BK120) | ((with_reducible refine gate_callee (f := 38) rfl ?_); refine gL (some 11) Try.func38 #[.int .i64 a0_1, .int .i64 0, .int .i64 (wrap64 ((l1_0.length : Int) - 1))] (site_inside.calls a0_1 0 (wrap64 ((l1_0.length : Int) - 1)) true _ A3.out) ?_; rintro e w' ⟨rfl, ⟨nd, rfl⟩⟩; refine ⟨_, rfl, ?_⟩) | (go_at_call 38; (with_reducible refine (site_inside.calls a0_7 0 (wrap64 ((l1_1.length : Int) - 1)) true _ A5.out).mono ?_); rintro e w' ⟨rfl, ⟨nd, rfl⟩⟩) | (go_at_call 38; (with_reducible refine (site_inside.calls a0_2 1 7 true _ A7.out).mono ?_); rintro e w' ⟨rfl, ⟨nd, rfl⟩⟩) | (go_at_call 38; (with_reducible refine (site_inside.calls a0_3 1 80 true _ A9.out).mono ?_); rintro e w' ⟨rfl, ⟨nd, rfl⟩⟩) | (go_at_call 38; (with_reducible refine (site_inside.calls a0_4 a0_3 80 true _ A11.out).mono ?_); rintro e w' ⟨rfl, ⟨nd, rfl⟩⟩) | (go_at_call 38; (with_reducible refine (site_inside.calls a0_5 1 80 false _ A13.out).mono ?_); rintro e w' ⟨rfl, ⟨nd, rfl⟩⟩))
  go_ret
  exact ⟨tE, kB2 HB GE119 GE120⟩
 subst c14
 replace H := ifT H
 by_cases c15 : a0_6 = 0
 ·rw [if_pos c15] at H
  have c15b0 : (a0_6 == 0) = true := beq_iff_eq.mpr c15
  have c15b1 : (a0_6 != 0) = false := bne_eq_false_iff_eq.mpr c15
  clear c15
  obtain rfl := Option.some.inj H
  go_enter Try.func43, Try.ntmps43
  go_wp2_with (first | ((with_reducible refine gate_dst (N := 2) rfl ?_); (try (refine gate_guard (by rfl) ?_; dsimp only)); refine bE 2 42 #[.string a0_0, .int .i64 a0_1, .int .i64 a0_2, .int .i64 a0_3, .int .i64 a0_4, .int .i64 a0_5, .int .i64 a0_6, .int .i64 a0_7] ?_; intro gb119 hg w16 hbox hb; have BK119 := Aside0.mk hbox; have GW119 := gE hg (kB HB); have GE119 := gE hg (kB HB); replace HB := bS (kB HB) hb; clear hb hbox hg) | ((with_reducible refine gate_dst (N := 3) rfl ?_); (try (refine gate_guard (by rfl) ?_; dsimp only)); refine bE 3 28 #[.slice A1_0 l1_0.length c1_0, .slice A1_1 l1_1.length c1_1, .slice A1_2 l1_2.length c1_2, .slice A1_3 l1_3.length c1_3, .slice A1_4 l1_4.length c1_4] ?_; intro gb120 hg w17 hbox hb; have BK120 := Aside0.mk hbox; have GW120 := gE hg (kB1 HB GE119); have GE120 := gE hg (kB1 HB GE119); replace HB := bS (kB1 HB GE119) hb; have NB119_120 := nL hg BK119; have NB120_119 := nG hg BK119; replace BK119 := bK BK119 hb; clear hb hbox hg; have hnb18 := NB119_120.out; have hnc18 := NB120_119.out; obtain ⟨⟨_,_,_,_,_,_,_,_⟩,_,_,_,_,_,_,_,_⟩ := bx8 BK119; obtain ⟨⟨_,_,_,_,_⟩,_,_,_,_,_⟩ := bx5 BK120) | ((with_reducible refine gate_callee (f := 38) rfl ?_); refine gL (some 11) Try.func38 #[.int .i64 a0_1, .int .i64 0, .int .i64 (wrap64 ((l1_0.length : Int) - 1))] (site_inside.calls a0_1 0 (wrap64 ((l1_0.length : Int) - 1)) true _ A3.out) ?_; rintro e w' ⟨rfl, ⟨nd, rfl⟩⟩; refine ⟨_, rfl, ?_⟩) | (go_at_call 38; (with_reducible refine (site_inside.calls a0_7 0 (wrap64 ((l1_1.length : Int) - 1)) true _ A5.out).mono ?_); rintro e w' ⟨rfl, ⟨nd, rfl⟩⟩) | (go_at_call 38; (with_reducible refine (site_inside.calls a0_2 1 7 true _ A7.out).mono ?_); rintro e w' ⟨rfl, ⟨nd, rfl⟩⟩) | (go_at_call 38; (with_reducible refine (site_inside.calls a0_3 1 80 true _ A9.out).mono ?_); rintro e w' ⟨rfl, ⟨nd, rfl⟩⟩) | (go_at_call 38; (with_reducible refine (site_inside.calls a0_4 a0_3 80 true _ A11.out).mono ?_); rintro e w' ⟨rfl, ⟨nd, rfl⟩⟩) | (go_at_call 38; (with_reducible refine (site_inside.calls a0_5 1 80 true _ A13.out).mono ?_); rintro e w' ⟨rfl, ⟨nd, rfl⟩⟩))
  go_ret
  exact ⟨tE, kB2 HB GE119 GE120⟩
 rw [if_neg c15] at H
 have c15b0 : (a0_6 == 0) = false := beq_eq_false_iff_ne.mpr c15
 have c15b1 : (a0_6 != 0) = true := bne_iff_ne.mpr c15
 obtain ⟨t127, A21, H⟩ := bnd H
 obtain rfl := Option.some.inj H
 go_enter Try.func43, Try.ntmps43
 go_wp2_with (first | ((with_reducible refine gate_dst (N := 2) rfl ?_); (try (refine gate_guard (by rfl) ?_; dsimp only)); refine bE 2 42 #[.string a0_0, .int .i64 a0_1, .int .i64 a0_2, .int .i64 a0_3, .int .i64 a0_4, .int .i64 a0_5, .int .i64 a0_6, .int .i64 a0_7] ?_; intro gb119 hg w22 hbox hb; have BK119 := Aside0.mk hbox; have GW119 := gE hg (kB HB); have GE119 := gE hg (kB HB); replace HB := bS (kB HB) hb; clear hb hbox hg) | ((with_reducible refine gate_dst (N := 3) rfl ?_); (try (refine gate_guard (by rfl) ?_; dsimp only)); refine bE 3 28 #[.slice A1_0 l1_0.length c1_0, .slice A1_1 l1_1.length c1_1, .slice A1_2 l1_2.length c1_2, .slice A1_3 l1_3.length c1_3, .slice A1_4 l1_4.length c1_4] ?_; intro gb120 hg w23 hbox hb; have BK120 := Aside0.mk hbox; have GW120 := gE hg (kB1 HB GE119); have GE120 := gE hg (kB1 HB GE119); replace HB := bS (kB1 HB GE119) hb; have NB119_120 := nL hg BK119; have NB120_119 := nG hg BK119; replace BK119 := bK BK119 hb; clear hb hbox hg; have hnb24 := NB119_120.out; have hnc24 := NB120_119.out; obtain ⟨⟨_,_,_,_,_,_,_,_⟩,_,_,_,_,_,_,_,_⟩ := bx8 BK119; obtain ⟨⟨_,_,_,_,_⟩,_,_,_,_,_⟩ := bx5 BK120) | ((with_reducible refine gate_callee (f := 38) rfl ?_); refine gL (some 11) Try.func38 #[.int .i64 a0_1, .int .i64 0, .int .i64 (wrap64 ((l1_0.length : Int) - 1))] (site_inside.calls a0_1 0 (wrap64 ((l1_0.length : Int) - 1)) true _ A3.out) ?_; rintro e w' ⟨rfl, ⟨nd, rfl⟩⟩; refine ⟨_, rfl, ?_⟩) | (go_at_call 38; (with_reducible refine (site_inside.calls a0_7 0 (wrap64 ((l1_1.length : Int) - 1)) true _ A5.out).mono ?_); rintro e w' ⟨rfl, ⟨nd, rfl⟩⟩) | (go_at_call 38; (with_reducible refine (site_inside.calls a0_2 1 7 true _ A7.out).mono ?_); rintro e w' ⟨rfl, ⟨nd, rfl⟩⟩) | (go_at_call 38; (with_reducible refine (site_inside.calls a0_3 1 80 true _ A9.out).mono ?_); rintro e w' ⟨rfl, ⟨nd, rfl⟩⟩) | (go_at_call 38; (with_reducible refine (site_inside.calls a0_4 a0_3 80 true _ A11.out).mono ?_); rintro e w' ⟨rfl, ⟨nd, rfl⟩⟩) | (go_at_call 38; (with_reducible refine (site_inside.calls a0_5 1 80 true _ A13.out).mono ?_); rintro e w' ⟨rfl, ⟨nd, rfl⟩⟩) | (go_at_call 38; (with_reducible refine (site_inside.calls a0_6 a0_3 a0_4 t127 _ A21.out).mono ?_); rintro e w' ⟨rfl, ⟨nd, rfl⟩⟩))
 go_ret
 exact ⟨tE, kB2 HB GE119 GE120⟩
end Go.Proofs.Ytpdmnineampimaa.Q
