-- Written by a program of this session (wip/tools/mk.py), through the kit's print program.
import Derived.Test.YtihfcnhiknljpaaQx0
import Derived.Test.YtihfcnhiknljpaaQx3
import Derived.Test.YtihfcnhiknljpaaQx4
namespace Go.Proofs.Ytihfcnhiknljpaa.Q
open Go.RowKit Go.Proofs.YtihfcnhiknljpaaW.PrintWords Go.Proofs.YtihfcnhiknljpaaW.PrintLast Go.Proofs.YtihfcnhiknljpaaW.PrintMore
attribute [local go_sem] max2_int min2_int max_two min_two max_three min_three max_four min_four   -- for this text's walks alone
set_option linter.unusedVariables false
set_option linter.unusedSimpArgs false

/-! ### chargeparklaw05_PhasesBalance: function 6 -/
def chargeparklaw05_PhasesBalance.f (k : Nat) (a0 : Int) (a1 : Int) (a2 : Int) (a3 : Int) : Option (Bool) := (chargeparklaw05_head.f k).bind fun t152 => ((chargeparklaw05_amps.f a0).bind fun t153 => ((chargeparklaw05_amps.f a1).bind fun t154 => ((chargeparklaw05_amps.f a2).bind fun t155 => ((chargeparklaw05_neutral.f t153 t154 t155).bind fun t156 => (if t156 < 0 then (some false) else (if t153 = t154 then (if ((t156 == 0) != (t154 == t155)) = true then (some false) else (if (wrap64 (1001 - (mx (mx t153 t154) t155))) = 0 then (none) else (if t152 = true then ((chargeparklaw05_neutral.f (wrap64 (t153 + (Int.tmod (wrap64 (a3)) (wrap64 (1001 - (mx (mx t153 t154) t155)))))) (wrap64 (t154 + (Int.tmod (wrap64 (a3)) (wrap64 (1001 - (mx (mx t153 t154) t155)))))) (wrap64 (t155 + (Int.tmod (wrap64 (a3)) (wrap64 (1001 - (mx (mx t153 t154) t155))))))).bind fun t157 => (some (t157 == t156))) else (some false)))) else (if ((t156 == 0) != false) = true then (some false) else (if (wrap64 (1001 - (mx (mx t153 t154) t155))) = 0 then (none) else (if t152 = true then ((chargeparklaw05_neutral.f (wrap64 (t153 + (Int.tmod (wrap64 (a3)) (wrap64 (1001 - (mx (mx t153 t154) t155)))))) (wrap64 (t154 + (Int.tmod (wrap64 (a3)) (wrap64 (1001 - (mx (mx t153 t154) t155)))))) (wrap64 (t155 + (Int.tmod (wrap64 (a3)) (wrap64 (1001 - (mx (mx t153 t154) t155))))))).bind fun t158 => (some (t158 == t156))) else (some false))))))))))
theorem chargeparklaw05_PhasesBalance.mono : ∀ a0 a1 a2 a3 k, LeO (chargeparklaw05_PhasesBalance.f k a0 a1 a2 a3) (chargeparklaw05_PhasesBalance.f (k + 1) a0 a1 a2 a3) := by
  intro a0 a1 a2 a3 k
  unfold chargeparklaw05_PhasesBalance.f
  repeat' first
      | (with_reducible exact chargeparklaw05_head.mono _)
      | (with_reducible exact LeO.refl _)
      | (with_reducible exact LeO.none _)
      | (with_reducible refine LeO.ite ?_ ?_)
      | (with_reducible refine LeO.bind ?_ (fun _ => ?_))
      | exact chargeparklaw05_head.mono _
      | exact LeO.none _
      | refine LeO.ite ?_ ?_
      | refine LeO.bind ?_ (fun _ => ?_)
set_option maxHeartbeats 8000000 in
set_option maxRecDepth 100000 in
theorem chargeparklaw05_PhasesBalance.calls (k : Nat) (a0 : Int) (a1 : Int) (a2 : Int) (a3 : Int) (r : Bool) (w : World) (h : chargeparklaw05_PhasesBalance.f k a0 a1 a2 a3 = some r) :
    Calls Try.prog 6 #[.int .u16 a0, .int .u16 a1, .int .u16 a2, .int .u16 a3] w fun e w' => e = .returned (.bool r) ∧ Below w.heap.size w w' := by
  have HB := Aside0.mk (Below.refl w.heap.size w)
  have H : ((chargeparklaw05_head.f k).bind fun t152 => ((chargeparklaw05_amps.f a0).bind fun t153 => ((chargeparklaw05_amps.f a1).bind fun t154 => ((chargeparklaw05_amps.f a2).bind fun t155 => ((chargeparklaw05_neutral.f t153 t154 t155).bind fun t156 => (if t156 < 0 then (some false) else (if t153 = t154 then (if ((t156 == 0) != (t154 == t155)) = true then (some false) else (if (wrap64 (1001 - (mx (mx t153 t154) t155))) = 0 then (none) else (if t152 = true then ((chargeparklaw05_neutral.f (wrap64 (t153 + (Int.tmod (wrap64 (a3)) (wrap64 (1001 - (mx (mx t153 t154) t155)))))) (wrap64 (t154 + (Int.tmod (wrap64 (a3)) (wrap64 (1001 - (mx (mx t153 t154) t155)))))) (wrap64 (t155 + (Int.tmod (wrap64 (a3)) (wrap64 (1001 - (mx (mx t153 t154) t155))))))).bind fun t157 => (some (t157 == t156))) else (some false)))) else (if ((t156 == 0) != false) = true then (some false) else (if (wrap64 (1001 - (mx (mx t153 t154) t155))) = 0 then (none) else (if t152 = true then ((chargeparklaw05_neutral.f (wrap64 (t153 + (Int.tmod (wrap64 (a3)) (wrap64 (1001 - (mx (mx t153 t154) t155)))))) (wrap64 (t154 + (Int.tmod (wrap64 (a3)) (wrap64 (1001 - (mx (mx t153 t154) t155)))))) (wrap64 (t155 + (Int.tmod (wrap64 (a3)) (wrap64 (1001 - (mx (mx t153 t154) t155))))))).bind fun t158 => (some (t158 == t156))) else (some false))))))))))) = some r := h
  clear h
  replace H := Option.bind_eq_some_iff.mp H
  obtain ⟨t152, A50, H⟩ := H
  replace H : ((chargeparklaw05_amps.f a0).bind fun t153 => ((chargeparklaw05_amps.f a1).bind fun t154 => ((chargeparklaw05_amps.f a2).bind fun t155 => ((chargeparklaw05_neutral.f t153 t154 t155).bind fun t156 => (if t156 < 0 then (some false) else (if t153 = t154 then (if ((t156 == 0) != (t154 == t155)) = true then (some false) else (if (wrap64 (1001 - (mx (mx t153 t154) t155))) = 0 then (none) else (if t152 = true then ((chargeparklaw05_neutral.f (wrap64 (t153 + (Int.tmod (wrap64 (a3)) (wrap64 (1001 - (mx (mx t153 t154) t155)))))) (wrap64 (t154 + (Int.tmod (wrap64 (a3)) (wrap64 (1001 - (mx (mx t153 t154) t155)))))) (wrap64 (t155 + (Int.tmod (wrap64 (a3)) (wrap64 (1001 - (mx (mx t153 t154) t155))))))).bind fun t157 => (some (t157 == t156))) else (some false)))) else (if ((t156 == 0) != false) = true then (some false) else (if (wrap64 (1001 - (mx (mx t153 t154) t155))) = 0 then (none) else (if t152 = true then ((chargeparklaw05_neutral.f (wrap64 (t153 + (Int.tmod (wrap64 (a3)) (wrap64 (1001 - (mx (mx t153 t154) t155)))))) (wrap64 (t154 + (Int.tmod (wrap64 (a3)) (wrap64 (1001 - (mx (mx t153 t154) t155)))))) (wrap64 (t155 + (Int.tmod (wrap64 (a3)) (wrap64 (1001 - (mx (mx t153 t154) t155))))))).bind fun t158 => (some (t158 == t156))) else (some false)))))))))) = some r := H
  have A5 := Aside0.mk A50
  clear A50
  replace H := Option.bind_eq_some_iff.mp H
  obtain ⟨t153, A60, H⟩ := H
  replace H : ((chargeparklaw05_amps.f a1).bind fun t154 => ((chargeparklaw05_amps.f a2).bind fun t155 => ((chargeparklaw05_neutral.f t153 t154 t155).bind fun t156 => (if t156 < 0 then (some false) else (if t153 = t154 then (if ((t156 == 0) != (t154 == t155)) = true then (some false) else (if (wrap64 (1001 - (mx (mx t153 t154) t155))) = 0 then (none) else (if t152 = true then ((chargeparklaw05_neutral.f (wrap64 (t153 + (Int.tmod (wrap64 (a3)) (wrap64 (1001 - (mx (mx t153 t154) t155)))))) (wrap64 (t154 + (Int.tmod (wrap64 (a3)) (wrap64 (1001 - (mx (mx t153 t154) t155)))))) (wrap64 (t155 + (Int.tmod (wrap64 (a3)) (wrap64 (1001 - (mx (mx t153 t154) t155))))))).bind fun t157 => (some (t157 == t156))) else (some false)))) else (if ((t156 == 0) != false) = true then (some false) else (if (wrap64 (1001 - (mx (mx t153 t154) t155))) = 0 then (none) else (if t152 = true then ((chargeparklaw05_neutral.f (wrap64 (t153 + (Int.tmod (wrap64 (a3)) (wrap64 (1001 - (mx (mx t153 t154) t155)))))) (wrap64 (t154 + (Int.tmod (wrap64 (a3)) (wrap64 (1001 - (mx (mx t153 t154) t155)))))) (wrap64 (t155 + (Int.tmod (wrap64 (a3)) (wrap64 (1001 - (mx (mx t153 t154) t155))))))).bind fun t158 => (some (t158 == t156))) else (some false))))))))) = some r := H
  have A6 := Aside0.mk A60
  clear A60
  replace H := Option.bind_eq_some_iff.mp H
  obtain ⟨t154, A70, H⟩ := H
  replace H : ((chargeparklaw05_amps.f a2).bind fun t155 => ((chargeparklaw05_neutral.f t153 t154 t155).bind fun t156 => (if t156 < 0 then (some false) else (if t153 = t154 then (if ((t156 == 0) != (t154 == t155)) = true then (some false) else (if (wrap64 (1001 - (mx (mx t153 t154) t155))) = 0 then (none) else (if t152 = true then ((chargeparklaw05_neutral.f (wrap64 (t153 + (Int.tmod (wrap64 (a3)) (wrap64 (1001 - (mx (mx t153 t154) t155)))))) (wrap64 (t154 + (Int.tmod (wrap64 (a3)) (wrap64 (1001 - (mx (mx t153 t154) t155)))))) (wrap64 (t155 + (Int.tmod (wrap64 (a3)) (wrap64 (1001 - (mx (mx t153 t154) t155))))))).bind fun t157 => (some (t157 == t156))) else (some false)))) else (if ((t156 == 0) != false) = true then (some false) else (if (wrap64 (1001 - (mx (mx t153 t154) t155))) = 0 then (none) else (if t152 = true then ((chargeparklaw05_neutral.f (wrap64 (t153 + (Int.tmod (wrap64 (a3)) (wrap64 (1001 - (mx (mx t153 t154) t155)))))) (wrap64 (t154 + (Int.tmod (wrap64 (a3)) (wrap64 (1001 - (mx (mx t153 t154) t155)))))) (wrap64 (t155 + (Int.tmod (wrap64 (a3)) (wrap64 (1001 - (mx (mx t153 t154) t155))))))).bind fun t158 => (some (t158 == t156))) else (some false)))))))) = some r := H
  have A7 := Aside0.mk A70
  clear A70
  replace H := Option.bind_eq_some_iff.mp H
  obtain ⟨t155, A80, H⟩ := H
  replace H : ((chargeparklaw05_neutral.f t153 t154 t155).bind fun t156 => (if t156 < 0 then (some false) else (if t153 = t154 then (if ((t156 == 0) != (t154 == t155)) = true then (some false) else (if (wrap64 (1001 - (mx (mx t153 t154) t155))) = 0 then (none) else (if t152 = true then ((chargeparklaw05_neutral.f (wrap64 (t153 + (Int.tmod (wrap64 (a3)) (wrap64 (1001 - (mx (mx t153 t154) t155)))))) (wrap64 (t154 + (Int.tmod (wrap64 (a3)) (wrap64 (1001 - (mx (mx t153 t154) t155)))))) (wrap64 (t155 + (Int.tmod (wrap64 (a3)) (wrap64 (1001 - (mx (mx t153 t154) t155))))))).bind fun t157 => (some (t157 == t156))) else (some false)))) else (if ((t156 == 0) != false) = true then (some false) else (if (wrap64 (1001 - (mx (mx t153 t154) t155))) = 0 then (none) else (if t152 = true then ((chargeparklaw05_neutral.f (wrap64 (t153 + (Int.tmod (wrap64 (a3)) (wrap64 (1001 - (mx (mx t153 t154) t155)))))) (wrap64 (t154 + (Int.tmod (wrap64 (a3)) (wrap64 (1001 - (mx (mx t153 t154) t155)))))) (wrap64 (t155 + (Int.tmod (wrap64 (a3)) (wrap64 (1001 - (mx (mx t153 t154) t155))))))).bind fun t158 => (some (t158 == t156))) else (some false))))))) = some r := H
  have A8 := Aside0.mk A80
  clear A80
  replace H := Option.bind_eq_some_iff.mp H
  obtain ⟨t156, A90, H⟩ := H
  replace H : (if t156 < 0 then (some false) else (if t153 = t154 then (if ((t156 == 0) != (t154 == t155)) = true then (some false) else (if (wrap64 (1001 - (mx (mx t153 t154) t155))) = 0 then (none) else (if t152 = true then ((chargeparklaw05_neutral.f (wrap64 (t153 + (Int.tmod (wrap64 (a3)) (wrap64 (1001 - (mx (mx t153 t154) t155)))))) (wrap64 (t154 + (Int.tmod (wrap64 (a3)) (wrap64 (1001 - (mx (mx t153 t154) t155)))))) (wrap64 (t155 + (Int.tmod (wrap64 (a3)) (wrap64 (1001 - (mx (mx t153 t154) t155))))))).bind fun t157 => (some (t157 == t156))) else (some false)))) else (if ((t156 == 0) != false) = true then (some false) else (if (wrap64 (1001 - (mx (mx t153 t154) t155))) = 0 then (none) else (if t152 = true then ((chargeparklaw05_neutral.f (wrap64 (t153 + (Int.tmod (wrap64 (a3)) (wrap64 (1001 - (mx (mx t153 t154) t155)))))) (wrap64 (t154 + (Int.tmod (wrap64 (a3)) (wrap64 (1001 - (mx (mx t153 t154) t155)))))) (wrap64 (t155 + (Int.tmod (wrap64 (a3)) (wrap64 (1001 - (mx (mx t153 t154) t155))))))).bind fun t158 => (some (t158 == t156))) else (some false)))))) = some r := H
  have A9 := Aside0.mk A90
  clear A90
  by_cases c10 : t156 < 0
  · rw [if_pos c10] at H
    have c10b0 : decide (t156 < 0) = true := decide_eq_true c10
    clear c10
    obtain rfl := Option.some.inj H
    go_enter Try.func6, Try.ntmps6
    go_wp2_with (first | ((with_reducible refine gate_callee (f := 10) rfl ?_); refine goesL_ (some 15) rfl rfl Try.func10 (by kernel_rfl) rfl #[] rfl (by (try simp only [List.map_toArray, List.map_cons, List.map_nil]); first | done | rfl | (simp only [List.length_drop, List.length_take]; rfl)) ?_; (with_reducible refine (chargeparklaw05_head.calls k  t152 _ A5.out).mono ?_); rintro e w11 ⟨rfl, hb⟩; refine ⟨_, rfl, ?_⟩; have n0_ := Aside0.mk (below_step (by repeat (first | (with_reducible first | exact HB.out | apply below_alloc | apply pw_below_drewN | apply below_drew1) | exact HB.out)) hb); clear HB; have HB := n0_; clear n0_; (try clear hb); (try clear hb2); (try clear hk); (try clear hi)) | ((with_reducible refine gate_callee (f := 15) rfl ?_); refine goesL_ (some 17) rfl rfl Try.func15 (by kernel_rfl) rfl #[.int .u16 a0] rfl (by (try simp only [List.map_toArray, List.map_cons, List.map_nil]); first | done | rfl | (simp only [List.length_drop, List.length_take]; rfl)) ?_; (with_reducible refine (chargeparklaw05_amps.calls a0 t153 _ A6.out).mono ?_); rintro e w' ⟨rfl, ⟨nd, rfl⟩⟩; refine ⟨_, rfl, ?_⟩) | ((with_reducible refine gate_callee (f := 15) rfl ?_); refine goesL_ (some 19) rfl rfl Try.func15 (by kernel_rfl) rfl #[.int .u16 a1] rfl (by (try simp only [List.map_toArray, List.map_cons, List.map_nil]); first | done | rfl | (simp only [List.length_drop, List.length_take]; rfl)) ?_; (with_reducible refine (chargeparklaw05_amps.calls a1 t154 _ A7.out).mono ?_); rintro e w' ⟨rfl, ⟨nd, rfl⟩⟩; refine ⟨_, rfl, ?_⟩) | ((with_reducible refine gate_callee (f := 15) rfl ?_); refine goesL_ (some 21) rfl rfl Try.func15 (by kernel_rfl) rfl #[.int .u16 a2] rfl (by (try simp only [List.map_toArray, List.map_cons, List.map_nil]); first | done | rfl | (simp only [List.length_drop, List.length_take]; rfl)) ?_; (with_reducible refine (chargeparklaw05_amps.calls a2 t155 _ A8.out).mono ?_); rintro e w' ⟨rfl, ⟨nd, rfl⟩⟩; refine ⟨_, rfl, ?_⟩) | ((with_reducible refine gate_callee (f := 16) rfl ?_); refine goesL_ (some 25) rfl rfl Try.func16 (by kernel_rfl) rfl #[.int .i64 t153, .int .i64 t154, .int .i64 t155] rfl (by (try simp only [List.map_toArray, List.map_cons, List.map_nil]); first | done | rfl | (simp only [List.length_drop, List.length_take]; rfl)) ?_; (with_reducible refine (chargeparklaw05_neutral.calls t153 t154 t155 t156 _ A9.out).mono ?_); rintro e w12 ⟨rfl, hb⟩; refine ⟨_, rfl, ?_⟩; have n0_ := Aside0.mk (below_step (by repeat (first | (with_reducible first | exact HB.out | apply below_alloc | apply pw_below_drewN | apply below_drew1) | exact HB.out)) hb); clear HB; have HB := n0_; clear n0_; (try clear hb); (try clear hb2); (try clear hk); (try clear hi)))
    go_ret
    exact ⟨by first | rfl | (simp [errW_none, errW_some] <;> rfl) | (simp [*, errW_none, errW_some] <;> rfl), by repeat (first | (with_reducible first | exact HB.out | apply below_alloc | apply pw_below_drewN | apply below_drew1) | exact HB.out)⟩
  · rw [if_neg c10] at H
    have c10b0 : decide (t156 < 0) = false := decide_eq_false c10
    clear c10
    by_cases c13 : t153 = t154
    · rw [if_pos c13] at H
      have c13b0 : (t153 == t154) = true := beq_iff_eq.mpr c13
      have c13b1 : (t153 != t154) = false := bne_eq_false_iff_eq.mpr c13
      clear c13
      by_cases c14 : ((t156 == 0) != (t154 == t155)) = true
      · rw [if_pos c14] at H
        have c14b0 : ((t156 == 0) != (t154 == t155)) = true := c14
        (try (have c14b1 : decide ((t156 == 0) = (t154 == t155)) = false := by simpa using c14))
        (try (have c14b2 : ((t156 == 0) == (t154 == t155)) = false := by simpa using c14))
        (try (have c14b3 : ¬ ((t156 == 0) = (t154 == t155)) := by simpa using c14))
        clear c14
        obtain rfl := Option.some.inj H
        go_enter Try.func6, Try.ntmps6
        go_wp2_with (first | ((with_reducible refine gate_callee (f := 10) rfl ?_); refine goesL_ (some 15) rfl rfl Try.func10 (by kernel_rfl) rfl #[] rfl (by (try simp only [List.map_toArray, List.map_cons, List.map_nil]); first | done | rfl | (simp only [List.length_drop, List.length_take]; rfl)) ?_; (with_reducible refine (chargeparklaw05_head.calls k  t152 _ A5.out).mono ?_); rintro e w15 ⟨rfl, hb⟩; refine ⟨_, rfl, ?_⟩; have n0_ := Aside0.mk (below_step (by repeat (first | (with_reducible first | exact HB.out | apply below_alloc | apply pw_below_drewN | apply below_drew1) | exact HB.out)) hb); clear HB; have HB := n0_; clear n0_; (try clear hb); (try clear hb2); (try clear hk); (try clear hi)) | ((with_reducible refine gate_callee (f := 15) rfl ?_); refine goesL_ (some 17) rfl rfl Try.func15 (by kernel_rfl) rfl #[.int .u16 a0] rfl (by (try simp only [List.map_toArray, List.map_cons, List.map_nil]); first | done | rfl | (simp only [List.length_drop, List.length_take]; rfl)) ?_; (with_reducible refine (chargeparklaw05_amps.calls a0 t153 _ A6.out).mono ?_); rintro e w' ⟨rfl, ⟨nd, rfl⟩⟩; refine ⟨_, rfl, ?_⟩) | ((with_reducible refine gate_callee (f := 15) rfl ?_); refine goesL_ (some 19) rfl rfl Try.func15 (by kernel_rfl) rfl #[.int .u16 a1] rfl (by (try simp only [List.map_toArray, List.map_cons, List.map_nil]); first | done | rfl | (simp only [List.length_drop, List.length_take]; rfl)) ?_; (with_reducible refine (chargeparklaw05_amps.calls a1 t154 _ A7.out).mono ?_); rintro e w' ⟨rfl, ⟨nd, rfl⟩⟩; refine ⟨_, rfl, ?_⟩) | ((with_reducible refine gate_callee (f := 15) rfl ?_); refine goesL_ (some 21) rfl rfl Try.func15 (by kernel_rfl) rfl #[.int .u16 a2] rfl (by (try simp only [List.map_toArray, List.map_cons, List.map_nil]); first | done | rfl | (simp only [List.length_drop, List.length_take]; rfl)) ?_; (with_reducible refine (chargeparklaw05_amps.calls a2 t155 _ A8.out).mono ?_); rintro e w' ⟨rfl, ⟨nd, rfl⟩⟩; refine ⟨_, rfl, ?_⟩) | ((with_reducible refine gate_callee (f := 16) rfl ?_); refine goesL_ (some 25) rfl rfl Try.func16 (by kernel_rfl) rfl #[.int .i64 t153, .int .i64 t154, .int .i64 t155] rfl (by (try simp only [List.map_toArray, List.map_cons, List.map_nil]); first | done | rfl | (simp only [List.length_drop, List.length_take]; rfl)) ?_; (with_reducible refine (chargeparklaw05_neutral.calls t153 t154 t155 t156 _ A9.out).mono ?_); rintro e w16 ⟨rfl, hb⟩; refine ⟨_, rfl, ?_⟩; have n0_ := Aside0.mk (below_step (by repeat (first | (with_reducible first | exact HB.out | apply below_alloc | apply pw_below_drewN | apply below_drew1) | exact HB.out)) hb); clear HB; have HB := n0_; clear n0_; (try clear hb); (try clear hb2); (try clear hk); (try clear hi)))
        go_ret
        exact ⟨by first | rfl | (simp [errW_none, errW_some] <;> rfl) | (simp [*, errW_none, errW_some] <;> rfl), by repeat (first | (with_reducible first | exact HB.out | apply below_alloc | apply pw_below_drewN | apply below_drew1) | exact HB.out)⟩
      · rw [if_neg c14] at H
        have c14b0 : ((t156 == 0) != (t154 == t155)) = false := by simpa using c14
        (try (have c14b1 : decide ((t156 == 0) = (t154 == t155)) = true := by simpa using c14))
        (try (have c14b2 : ((t156 == 0) == (t154 == t155)) = true := by simpa using c14))
        clear c14
        obtain ⟨ji17, hji17⟩ : ∃ j_ : Int, (mx t153 t154) = j_ := ⟨_, rfl⟩
        replace H : (if (wrap64 (1001 - (mx (ji17) t155))) = 0 then (none) else (if t152 = true then ((chargeparklaw05_neutral.f (wrap64 (t153 + (Int.tmod (wrap64 (a3)) (wrap64 (1001 - (mx (ji17) t155)))))) (wrap64 (t154 + (Int.tmod (wrap64 (a3)) (wrap64 (1001 - (mx (ji17) t155)))))) (wrap64 (t155 + (Int.tmod (wrap64 (a3)) (wrap64 (1001 - (mx (ji17) t155))))))).bind fun t157 => (some (t157 == t156))) else (some false))) = some r := by first | (rw [hji17] at H; exact H) | (simp only [hji17] at H ⊢; exact H)
        (try rw [hji17] at A5)
        (try rw [hji17] at A6)
        (try rw [hji17] at A7)
        (try rw [hji17] at A8)
        (try rw [hji17] at A9)
        have hji17_ : (if t153 < t154 then t154 else t153) = ji17 := hji17
        obtain ⟨ji18, hji18⟩ : ∃ j_ : Int, (mx (ji17) t155) = j_ := ⟨_, rfl⟩
        replace H : (if (wrap64 (1001 - (ji18))) = 0 then (none) else (if t152 = true then ((chargeparklaw05_neutral.f (wrap64 (t153 + (Int.tmod (wrap64 (a3)) (wrap64 (1001 - (ji18)))))) (wrap64 (t154 + (Int.tmod (wrap64 (a3)) (wrap64 (1001 - (ji18)))))) (wrap64 (t155 + (Int.tmod (wrap64 (a3)) (wrap64 (1001 - (ji18))))))).bind fun t157 => (some (t157 == t156))) else (some false))) = some r := by first | (rw [hji18] at H; exact H) | (simp only [hji18] at H ⊢; exact H)
        (try rw [hji18] at A5)
        (try rw [hji18] at A6)
        (try rw [hji18] at A7)
        (try rw [hji18] at A8)
        (try rw [hji18] at A9)
        have hji18_ : (if (ji17) < t155 then t155 else (ji17)) = ji18 := hji18
        by_cases c19 : (wrap64 (1001 - (ji18))) = 0
        · rw [if_pos c19] at H
          exact absurd H (by simp)
        · rw [if_neg c19] at H
          have c19b0 : ((wrap64 (1001 - (ji18))) == 0) = false := beq_eq_false_iff_ne.mpr c19
          have c19b1 : ((wrap64 (1001 - (ji18))) != 0) = true := bne_iff_ne.mpr c19
          by_cases c20 : t152 = true
          · subst c20
            have H1 : ((chargeparklaw05_neutral.f (wrap64 (t153 + (Int.tmod (wrap64 (a3)) (wrap64 (1001 - (ji18)))))) (wrap64 (t154 + (Int.tmod (wrap64 (a3)) (wrap64 (1001 - (ji18)))))) (wrap64 (t155 + (Int.tmod (wrap64 (a3)) (wrap64 (1001 - (ji18))))))).bind fun t157 => (some (t157 == t156))) = some r := by rw [if_pos rfl] at H; exact H
            clear H
            have H := H1
            clear H1
            replace H := Option.bind_eq_some_iff.mp H
            obtain ⟨t157, A210, H⟩ := H
            replace H : (some (t157 == t156)) = some r := H
            have A21 := Aside0.mk A210
            clear A210
            obtain rfl := Option.some.inj H
            go_enter Try.func6, Try.ntmps6
            go_wp2_with (first | ((with_reducible refine gate_callee (f := 10) rfl ?_); refine goesL_ (some 15) rfl rfl Try.func10 (by kernel_rfl) rfl #[] rfl (by (try simp only [List.map_toArray, List.map_cons, List.map_nil]); first | done | rfl | (simp only [List.length_drop, List.length_take]; rfl)) ?_; (with_reducible refine (chargeparklaw05_head.calls k  true _ A5.out).mono ?_); rintro e w22 ⟨rfl, hb⟩; refine ⟨_, rfl, ?_⟩; have n0_ := Aside0.mk (below_step (by repeat (first | (with_reducible first | exact HB.out | apply below_alloc | apply pw_below_drewN | apply below_drew1) | exact HB.out)) hb); clear HB; have HB := n0_; clear n0_; (try clear hb); (try clear hb2); (try clear hk); (try clear hi)) | ((with_reducible refine gate_callee (f := 15) rfl ?_); refine goesL_ (some 17) rfl rfl Try.func15 (by kernel_rfl) rfl #[.int .u16 a0] rfl (by (try simp only [List.map_toArray, List.map_cons, List.map_nil]); first | done | rfl | (simp only [List.length_drop, List.length_take]; rfl)) ?_; (with_reducible refine (chargeparklaw05_amps.calls a0 t153 _ A6.out).mono ?_); rintro e w' ⟨rfl, ⟨nd, rfl⟩⟩; refine ⟨_, rfl, ?_⟩) | ((with_reducible refine gate_callee (f := 15) rfl ?_); refine goesL_ (some 19) rfl rfl Try.func15 (by kernel_rfl) rfl #[.int .u16 a1] rfl (by (try simp only [List.map_toArray, List.map_cons, List.map_nil]); first | done | rfl | (simp only [List.length_drop, List.length_take]; rfl)) ?_; (with_reducible refine (chargeparklaw05_amps.calls a1 t154 _ A7.out).mono ?_); rintro e w' ⟨rfl, ⟨nd, rfl⟩⟩; refine ⟨_, rfl, ?_⟩) | ((with_reducible refine gate_callee (f := 15) rfl ?_); refine goesL_ (some 21) rfl rfl Try.func15 (by kernel_rfl) rfl #[.int .u16 a2] rfl (by (try simp only [List.map_toArray, List.map_cons, List.map_nil]); first | done | rfl | (simp only [List.length_drop, List.length_take]; rfl)) ?_; (with_reducible refine (chargeparklaw05_amps.calls a2 t155 _ A8.out).mono ?_); rintro e w' ⟨rfl, ⟨nd, rfl⟩⟩; refine ⟨_, rfl, ?_⟩) | ((with_reducible refine gate_callee (f := 16) rfl ?_); refine goesL_ (some 25) rfl rfl Try.func16 (by kernel_rfl) rfl #[.int .i64 t153, .int .i64 t154, .int .i64 t155] rfl (by (try simp only [List.map_toArray, List.map_cons, List.map_nil]); first | done | rfl | (simp only [List.length_drop, List.length_take]; rfl)) ?_; (with_reducible refine (chargeparklaw05_neutral.calls t153 t154 t155 t156 _ A9.out).mono ?_); rintro e w23 ⟨rfl, hb⟩; refine ⟨_, rfl, ?_⟩; have n0_ := Aside0.mk (below_step (by repeat (first | (with_reducible first | exact HB.out | apply below_alloc | apply pw_below_drewN | apply below_drew1) | exact HB.out)) hb); clear HB; have HB := n0_; clear n0_; (try clear hb); (try clear hb2); (try clear hk); (try clear hi)) | (go_at_call 16; (with_reducible refine (chargeparklaw05_neutral.calls (wrap64 (t153 + (Int.tmod (wrap64 (a3)) (wrap64 (1001 - (ji18)))))) (wrap64 (t154 + (Int.tmod (wrap64 (a3)) (wrap64 (1001 - (ji18)))))) (wrap64 (t155 + (Int.tmod (wrap64 (a3)) (wrap64 (1001 - (ji18)))))) t157 _ A21.out).mono ?_); rintro e w24 ⟨rfl, hb⟩; have n0_ := Aside0.mk (below_step (by repeat (first | (with_reducible first | exact HB.out | apply below_alloc | apply pw_below_drewN | apply below_drew1) | exact HB.out)) hb); clear HB; have HB := n0_; clear n0_; (try clear hb); (try clear hb2); (try clear hk); (try clear hi)))
            go_ret
            exact ⟨by first | rfl | (simp [errW_none, errW_some] <;> rfl) | (simp only [← hji17, ← hji18]; first | rfl | (simp [errW_none, errW_some] <;> rfl)) | (simp [*, errW_none, errW_some] <;> rfl), by repeat (first | (with_reducible first | exact HB.out | apply below_alloc | apply pw_below_drewN | apply below_drew1) | exact HB.out)⟩
          · replace c20 := Bool.eq_false_iff.mpr c20
            subst c20
            have H1 : (some false) = some r := by rw [if_neg (show ¬ (false = true) by decide)] at H; exact H
            clear H
            have H := H1
            clear H1
            obtain rfl := Option.some.inj H
            go_enter Try.func6, Try.ntmps6
            go_wp2_with (first | ((with_reducible refine gate_callee (f := 10) rfl ?_); refine goesL_ (some 15) rfl rfl Try.func10 (by kernel_rfl) rfl #[] rfl (by (try simp only [List.map_toArray, List.map_cons, List.map_nil]); first | done | rfl | (simp only [List.length_drop, List.length_take]; rfl)) ?_; (with_reducible refine (chargeparklaw05_head.calls k  false _ A5.out).mono ?_); rintro e w25 ⟨rfl, hb⟩; refine ⟨_, rfl, ?_⟩; have n0_ := Aside0.mk (below_step (by repeat (first | (with_reducible first | exact HB.out | apply below_alloc | apply pw_below_drewN | apply below_drew1) | exact HB.out)) hb); clear HB; have HB := n0_; clear n0_; (try clear hb); (try clear hb2); (try clear hk); (try clear hi)) | ((with_reducible refine gate_callee (f := 15) rfl ?_); refine goesL_ (some 17) rfl rfl Try.func15 (by kernel_rfl) rfl #[.int .u16 a0] rfl (by (try simp only [List.map_toArray, List.map_cons, List.map_nil]); first | done | rfl | (simp only [List.length_drop, List.length_take]; rfl)) ?_; (with_reducible refine (chargeparklaw05_amps.calls a0 t153 _ A6.out).mono ?_); rintro e w' ⟨rfl, ⟨nd, rfl⟩⟩; refine ⟨_, rfl, ?_⟩) | ((with_reducible refine gate_callee (f := 15) rfl ?_); refine goesL_ (some 19) rfl rfl Try.func15 (by kernel_rfl) rfl #[.int .u16 a1] rfl (by (try simp only [List.map_toArray, List.map_cons, List.map_nil]); first | done | rfl | (simp only [List.length_drop, List.length_take]; rfl)) ?_; (with_reducible refine (chargeparklaw05_amps.calls a1 t154 _ A7.out).mono ?_); rintro e w' ⟨rfl, ⟨nd, rfl⟩⟩; refine ⟨_, rfl, ?_⟩) | ((with_reducible refine gate_callee (f := 15) rfl ?_); refine goesL_ (some 21) rfl rfl Try.func15 (by kernel_rfl) rfl #[.int .u16 a2] rfl (by (try simp only [List.map_toArray, List.map_cons, List.map_nil]); first | done | rfl | (simp only [List.length_drop, List.length_take]; rfl)) ?_; (with_reducible refine (chargeparklaw05_amps.calls a2 t155 _ A8.out).mono ?_); rintro e w' ⟨rfl, ⟨nd, rfl⟩⟩; refine ⟨_, rfl, ?_⟩) | ((with_reducible refine gate_callee (f := 16) rfl ?_); refine goesL_ (some 25) rfl rfl Try.func16 (by kernel_rfl) rfl #[.int .i64 t153, .int .i64 t154, .int .i64 t155] rfl (by (try simp only [List.map_toArray, List.map_cons, List.map_nil]); first | done | rfl | (simp only [List.length_drop, List.length_take]; rfl)) ?_; (with_reducible refine (chargeparklaw05_neutral.calls t153 t154 t155 t156 _ A9.out).mono ?_); rintro e w26 ⟨rfl, hb⟩; refine ⟨_, rfl, ?_⟩; have n0_ := Aside0.mk (below_step (by repeat (first | (with_reducible first | exact HB.out | apply below_alloc | apply pw_below_drewN | apply below_drew1) | exact HB.out)) hb); clear HB; have HB := n0_; clear n0_; (try clear hb); (try clear hb2); (try clear hk); (try clear hi)))
            go_ret
            exact ⟨by first | rfl | (simp [errW_none, errW_some] <;> rfl) | (simp only [← hji17, ← hji18]; first | rfl | (simp [errW_none, errW_some] <;> rfl)) | (simp [*, errW_none, errW_some] <;> rfl), by repeat (first | (with_reducible first | exact HB.out | apply below_alloc | apply pw_below_drewN | apply below_drew1) | exact HB.out)⟩
    · rw [if_neg c13] at H
      have c13b0 : (t153 == t154) = false := beq_eq_false_iff_ne.mpr c13
      have c13b1 : (t153 != t154) = true := bne_iff_ne.mpr c13
      by_cases c27 : ((t156 == 0) != false) = true
      · rw [if_pos c27] at H
        have c27b0 : ((t156 == 0) != false) = true := c27
        (try (have c27b1 : decide ((t156 == 0) = false) = false := by simpa using c27))
        (try (have c27b2 : ((t156 == 0) == false) = false := by simpa using c27))
        (try (have c27b3 : ¬ ((t156 == 0) = false) := by simpa using c27))
        clear c27
        obtain rfl := Option.some.inj H
        go_enter Try.func6, Try.ntmps6
        go_wp2_with (first | ((with_reducible refine gate_callee (f := 10) rfl ?_); refine goesL_ (some 15) rfl rfl Try.func10 (by kernel_rfl) rfl #[] rfl (by (try simp only [List.map_toArray, List.map_cons, List.map_nil]); first | done | rfl | (simp only [List.length_drop, List.length_take]; rfl)) ?_; (with_reducible refine (chargeparklaw05_head.calls k  t152 _ A5.out).mono ?_); rintro e w28 ⟨rfl, hb⟩; refine ⟨_, rfl, ?_⟩; have n0_ := Aside0.mk (below_step (by repeat (first | (with_reducible first | exact HB.out | apply below_alloc | apply pw_below_drewN | apply below_drew1) | exact HB.out)) hb); clear HB; have HB := n0_; clear n0_; (try clear hb); (try clear hb2); (try clear hk); (try clear hi)) | ((with_reducible refine gate_callee (f := 15) rfl ?_); refine goesL_ (some 17) rfl rfl Try.func15 (by kernel_rfl) rfl #[.int .u16 a0] rfl (by (try simp only [List.map_toArray, List.map_cons, List.map_nil]); first | done | rfl | (simp only [List.length_drop, List.length_take]; rfl)) ?_; (with_reducible refine (chargeparklaw05_amps.calls a0 t153 _ A6.out).mono ?_); rintro e w' ⟨rfl, ⟨nd, rfl⟩⟩; refine ⟨_, rfl, ?_⟩) | ((with_reducible refine gate_callee (f := 15) rfl ?_); refine goesL_ (some 19) rfl rfl Try.func15 (by kernel_rfl) rfl #[.int .u16 a1] rfl (by (try simp only [List.map_toArray, List.map_cons, List.map_nil]); first | done | rfl | (simp only [List.length_drop, List.length_take]; rfl)) ?_; (with_reducible refine (chargeparklaw05_amps.calls a1 t154 _ A7.out).mono ?_); rintro e w' ⟨rfl, ⟨nd, rfl⟩⟩; refine ⟨_, rfl, ?_⟩) | ((with_reducible refine gate_callee (f := 15) rfl ?_); refine goesL_ (some 21) rfl rfl Try.func15 (by kernel_rfl) rfl #[.int .u16 a2] rfl (by (try simp only [List.map_toArray, List.map_cons, List.map_nil]); first | done | rfl | (simp only [List.length_drop, List.length_take]; rfl)) ?_; (with_reducible refine (chargeparklaw05_amps.calls a2 t155 _ A8.out).mono ?_); rintro e w' ⟨rfl, ⟨nd, rfl⟩⟩; refine ⟨_, rfl, ?_⟩) | ((with_reducible refine gate_callee (f := 16) rfl ?_); refine goesL_ (some 25) rfl rfl Try.func16 (by kernel_rfl) rfl #[.int .i64 t153, .int .i64 t154, .int .i64 t155] rfl (by (try simp only [List.map_toArray, List.map_cons, List.map_nil]); first | done | rfl | (simp only [List.length_drop, List.length_take]; rfl)) ?_; (with_reducible refine (chargeparklaw05_neutral.calls t153 t154 t155 t156 _ A9.out).mono ?_); rintro e w29 ⟨rfl, hb⟩; refine ⟨_, rfl, ?_⟩; have n0_ := Aside0.mk (below_step (by repeat (first | (with_reducible first | exact HB.out | apply below_alloc | apply pw_below_drewN | apply below_drew1) | exact HB.out)) hb); clear HB; have HB := n0_; clear n0_; (try clear hb); (try clear hb2); (try clear hk); (try clear hi)))
        go_ret
        exact ⟨by first | rfl | (simp [errW_none, errW_some] <;> rfl) | (simp [*, errW_none, errW_some] <;> rfl), by repeat (first | (with_reducible first | exact HB.out | apply below_alloc | apply pw_below_drewN | apply below_drew1) | exact HB.out)⟩
      · rw [if_neg c27] at H
        have c27b0 : ((t156 == 0) != false) = false := by simpa using c27
        (try (have c27b1 : decide ((t156 == 0) = false) = true := by simpa using c27))
        (try (have c27b2 : ((t156 == 0) == false) = true := by simpa using c27))
        clear c27
        obtain ⟨ji30, hji30⟩ : ∃ j_ : Int, (mx t153 t154) = j_ := ⟨_, rfl⟩
        replace H : (if (wrap64 (1001 - (mx (ji30) t155))) = 0 then (none) else (if t152 = true then ((chargeparklaw05_neutral.f (wrap64 (t153 + (Int.tmod (wrap64 (a3)) (wrap64 (1001 - (mx (ji30) t155)))))) (wrap64 (t154 + (Int.tmod (wrap64 (a3)) (wrap64 (1001 - (mx (ji30) t155)))))) (wrap64 (t155 + (Int.tmod (wrap64 (a3)) (wrap64 (1001 - (mx (ji30) t155))))))).bind fun t158 => (some (t158 == t156))) else (some false))) = some r := by first | (rw [hji30] at H; exact H) | (simp only [hji30] at H ⊢; exact H)
        (try rw [hji30] at A5)
        (try rw [hji30] at A6)
        (try rw [hji30] at A7)
        (try rw [hji30] at A8)
        (try rw [hji30] at A9)
        have hji30_ : (if t153 < t154 then t154 else t153) = ji30 := hji30
        obtain ⟨ji31, hji31⟩ : ∃ j_ : Int, (mx (ji30) t155) = j_ := ⟨_, rfl⟩
        replace H : (if (wrap64 (1001 - (ji31))) = 0 then (none) else (if t152 = true then ((chargeparklaw05_neutral.f (wrap64 (t153 + (Int.tmod (wrap64 (a3)) (wrap64 (1001 - (ji31)))))) (wrap64 (t154 + (Int.tmod (wrap64 (a3)) (wrap64 (1001 - (ji31)))))) (wrap64 (t155 + (Int.tmod (wrap64 (a3)) (wrap64 (1001 - (ji31))))))).bind fun t158 => (some (t158 == t156))) else (some false))) = some r := by first | (rw [hji31] at H; exact H) | (simp only [hji31] at H ⊢; exact H)
        (try rw [hji31] at A5)
        (try rw [hji31] at A6)
        (try rw [hji31] at A7)
        (try rw [hji31] at A8)
        (try rw [hji31] at A9)
        have hji31_ : (if (ji30) < t155 then t155 else (ji30)) = ji31 := hji31
        by_cases c32 : (wrap64 (1001 - (ji31))) = 0
        · rw [if_pos c32] at H
          exact absurd H (by simp)
        · rw [if_neg c32] at H
          have c32b0 : ((wrap64 (1001 - (ji31))) == 0) = false := beq_eq_false_iff_ne.mpr c32
          have c32b1 : ((wrap64 (1001 - (ji31))) != 0) = true := bne_iff_ne.mpr c32
          by_cases c33 : t152 = true
          · subst c33
            have H1 : ((chargeparklaw05_neutral.f (wrap64 (t153 + (Int.tmod (wrap64 (a3)) (wrap64 (1001 - (ji31)))))) (wrap64 (t154 + (Int.tmod (wrap64 (a3)) (wrap64 (1001 - (ji31)))))) (wrap64 (t155 + (Int.tmod (wrap64 (a3)) (wrap64 (1001 - (ji31))))))).bind fun t158 => (some (t158 == t156))) = some r := by rw [if_pos rfl] at H; exact H
            clear H
            have H := H1
            clear H1
            replace H := Option.bind_eq_some_iff.mp H
            obtain ⟨t158, A340, H⟩ := H
            replace H : (some (t158 == t156)) = some r := H
            have A34 := Aside0.mk A340
            clear A340
            obtain rfl := Option.some.inj H
            go_enter Try.func6, Try.ntmps6
            go_wp2_with (first | ((with_reducible refine gate_callee (f := 10) rfl ?_); refine goesL_ (some 15) rfl rfl Try.func10 (by kernel_rfl) rfl #[] rfl (by (try simp only [List.map_toArray, List.map_cons, List.map_nil]); first | done | rfl | (simp only [List.length_drop, List.length_take]; rfl)) ?_; (with_reducible refine (chargeparklaw05_head.calls k  true _ A5.out).mono ?_); rintro e w35 ⟨rfl, hb⟩; refine ⟨_, rfl, ?_⟩; have n0_ := Aside0.mk (below_step (by repeat (first | (with_reducible first | exact HB.out | apply below_alloc | apply pw_below_drewN | apply below_drew1) | exact HB.out)) hb); clear HB; have HB := n0_; clear n0_; (try clear hb); (try clear hb2); (try clear hk); (try clear hi)) | ((with_reducible refine gate_callee (f := 15) rfl ?_); refine goesL_ (some 17) rfl rfl Try.func15 (by kernel_rfl) rfl #[.int .u16 a0] rfl (by (try simp only [List.map_toArray, List.map_cons, List.map_nil]); first | done | rfl | (simp only [List.length_drop, List.length_take]; rfl)) ?_; (with_reducible refine (chargeparklaw05_amps.calls a0 t153 _ A6.out).mono ?_); rintro e w' ⟨rfl, ⟨nd, rfl⟩⟩; refine ⟨_, rfl, ?_⟩) | ((with_reducible refine gate_callee (f := 15) rfl ?_); refine goesL_ (some 19) rfl rfl Try.func15 (by kernel_rfl) rfl #[.int .u16 a1] rfl (by (try simp only [List.map_toArray, List.map_cons, List.map_nil]); first | done | rfl | (simp only [List.length_drop, List.length_take]; rfl)) ?_; (with_reducible refine (chargeparklaw05_amps.calls a1 t154 _ A7.out).mono ?_); rintro e w' ⟨rfl, ⟨nd, rfl⟩⟩; refine ⟨_, rfl, ?_⟩) | ((with_reducible refine gate_callee (f := 15) rfl ?_); refine goesL_ (some 21) rfl rfl Try.func15 (by kernel_rfl) rfl #[.int .u16 a2] rfl (by (try simp only [List.map_toArray, List.map_cons, List.map_nil]); first | done | rfl | (simp only [List.length_drop, List.length_take]; rfl)) ?_; (with_reducible refine (chargeparklaw05_amps.calls a2 t155 _ A8.out).mono ?_); rintro e w' ⟨rfl, ⟨nd, rfl⟩⟩; refine ⟨_, rfl, ?_⟩) | ((with_reducible refine gate_callee (f := 16) rfl ?_); refine goesL_ (some 25) rfl rfl Try.func16 (by kernel_rfl) rfl #[.int .i64 t153, .int .i64 t154, .int .i64 t155] rfl (by (try simp only [List.map_toArray, List.map_cons, List.map_nil]); first | done | rfl | (simp only [List.length_drop, List.length_take]; rfl)) ?_; (with_reducible refine (chargeparklaw05_neutral.calls t153 t154 t155 t156 _ A9.out).mono ?_); rintro e w36 ⟨rfl, hb⟩; refine ⟨_, rfl, ?_⟩; have n0_ := Aside0.mk (below_step (by repeat (first | (with_reducible first | exact HB.out | apply below_alloc | apply pw_below_drewN | apply below_drew1) | exact HB.out)) hb); clear HB; have HB := n0_; clear n0_; (try clear hb); (try clear hb2); (try clear hk); (try clear hi)) | (go_at_call 16; (with_reducible refine (chargeparklaw05_neutral.calls (wrap64 (t153 + (Int.tmod (wrap64 (a3)) (wrap64 (1001 - (ji31)))))) (wrap64 (t154 + (Int.tmod (wrap64 (a3)) (wrap64 (1001 - (ji31)))))) (wrap64 (t155 + (Int.tmod (wrap64 (a3)) (wrap64 (1001 - (ji31)))))) t158 _ A34.out).mono ?_); rintro e w37 ⟨rfl, hb⟩; have n0_ := Aside0.mk (below_step (by repeat (first | (with_reducible first | exact HB.out | apply below_alloc | apply pw_below_drewN | apply below_drew1) | exact HB.out)) hb); clear HB; have HB := n0_; clear n0_; (try clear hb); (try clear hb2); (try clear hk); (try clear hi)))
            go_ret
            exact ⟨by first | rfl | (simp [errW_none, errW_some] <;> rfl) | (simp only [← hji30, ← hji31]; first | rfl | (simp [errW_none, errW_some] <;> rfl)) | (simp [*, errW_none, errW_some] <;> rfl), by repeat (first | (with_reducible first | exact HB.out | apply below_alloc | apply pw_below_drewN | apply below_drew1) | exact HB.out)⟩
          · replace c33 := Bool.eq_false_iff.mpr c33
            subst c33
            have H1 : (some false) = some r := by rw [if_neg (show ¬ (false = true) by decide)] at H; exact H
            clear H
            have H := H1
            clear H1
            obtain rfl := Option.some.inj H
            go_enter Try.func6, Try.ntmps6
            go_wp2_with (first | ((with_reducible refine gate_callee (f := 10) rfl ?_); refine goesL_ (some 15) rfl rfl Try.func10 (by kernel_rfl) rfl #[] rfl (by (try simp only [List.map_toArray, List.map_cons, List.map_nil]); first | done | rfl | (simp only [List.length_drop, List.length_take]; rfl)) ?_; (with_reducible refine (chargeparklaw05_head.calls k  false _ A5.out).mono ?_); rintro e w38 ⟨rfl, hb⟩; refine ⟨_, rfl, ?_⟩; have n0_ := Aside0.mk (below_step (by repeat (first | (with_reducible first | exact HB.out | apply below_alloc | apply pw_below_drewN | apply below_drew1) | exact HB.out)) hb); clear HB; have HB := n0_; clear n0_; (try clear hb); (try clear hb2); (try clear hk); (try clear hi)) | ((with_reducible refine gate_callee (f := 15) rfl ?_); refine goesL_ (some 17) rfl rfl Try.func15 (by kernel_rfl) rfl #[.int .u16 a0] rfl (by (try simp only [List.map_toArray, List.map_cons, List.map_nil]); first | done | rfl | (simp only [List.length_drop, List.length_take]; rfl)) ?_; (with_reducible refine (chargeparklaw05_amps.calls a0 t153 _ A6.out).mono ?_); rintro e w' ⟨rfl, ⟨nd, rfl⟩⟩; refine ⟨_, rfl, ?_⟩) | ((with_reducible refine gate_callee (f := 15) rfl ?_); refine goesL_ (some 19) rfl rfl Try.func15 (by kernel_rfl) rfl #[.int .u16 a1] rfl (by (try simp only [List.map_toArray, List.map_cons, List.map_nil]); first | done | rfl | (simp only [List.length_drop, List.length_take]; rfl)) ?_; (with_reducible refine (chargeparklaw05_amps.calls a1 t154 _ A7.out).mono ?_); rintro e w' ⟨rfl, ⟨nd, rfl⟩⟩; refine ⟨_, rfl, ?_⟩) | ((with_reducible refine gate_callee (f := 15) rfl ?_); refine goesL_ (some 21) rfl rfl Try.func15 (by kernel_rfl) rfl #[.int .u16 a2] rfl (by (try simp only [List.map_toArray, List.map_cons, List.map_nil]); first | done | rfl | (simp only [List.length_drop, List.length_take]; rfl)) ?_; (with_reducible refine (chargeparklaw05_amps.calls a2 t155 _ A8.out).mono ?_); rintro e w' ⟨rfl, ⟨nd, rfl⟩⟩; refine ⟨_, rfl, ?_⟩) | ((with_reducible refine gate_callee (f := 16) rfl ?_); refine goesL_ (some 25) rfl rfl Try.func16 (by kernel_rfl) rfl #[.int .i64 t153, .int .i64 t154, .int .i64 t155] rfl (by (try simp only [List.map_toArray, List.map_cons, List.map_nil]); first | done | rfl | (simp only [List.length_drop, List.length_take]; rfl)) ?_; (with_reducible refine (chargeparklaw05_neutral.calls t153 t154 t155 t156 _ A9.out).mono ?_); rintro e w39 ⟨rfl, hb⟩; refine ⟨_, rfl, ?_⟩; have n0_ := Aside0.mk (below_step (by repeat (first | (with_reducible first | exact HB.out | apply below_alloc | apply pw_below_drewN | apply below_drew1) | exact HB.out)) hb); clear HB; have HB := n0_; clear n0_; (try clear hb); (try clear hb2); (try clear hk); (try clear hi)))
            go_ret
            exact ⟨by first | rfl | (simp [errW_none, errW_some] <;> rfl) | (simp only [← hji30, ← hji31]; first | rfl | (simp [errW_none, errW_some] <;> rfl)) | (simp [*, errW_none, errW_some] <;> rfl), by repeat (first | (with_reducible first | exact HB.out | apply below_alloc | apply pw_below_drewN | apply below_drew1) | exact HB.out)⟩

/-- THE ONE PURE STATEMENT of chargeparklaw05_PhasesBalance: yours. -/
def chargeparklaw05_PhasesBalance.Pure : Prop := ∀ (a0 : Int) (a1 : Int) (a2 : Int) (a3 : Int), (Lit.int .u16 a0).wf = true → (Lit.int .u16 a1).wf = true → (Lit.int .u16 a2).wf = true → (Lit.int .u16 a3).wf = true → ∃ k, chargeparklaw05_PhasesBalance.f k a0 a1 a2 a3 = some true
theorem chargeparklaw05_PhasesBalance.walk (P : chargeparklaw05_PhasesBalance.Pure) (a0 : Int) (a1 : Int) (a2 : Int) (a3 : Int) (w : World) (w0 : (Lit.int .u16 a0).wf = true) (w1 : (Lit.int .u16 a1).wf = true) (w2 : (Lit.int .u16 a2).wf = true) (w3 : (Lit.int .u16 a3).wf = true) :
    Calls Try.prog 6 #[.int .u16 a0, .int .u16 a1, .int .u16 a2, .int .u16 a3] w fun e w' => e = .returned (.bool true) ∧ Below w.heap.size w w' := by
  obtain ⟨k, h⟩ := P a0 a1 a2 a3 w0 w1 w2 w3
  refine (chargeparklaw05_PhasesBalance.calls k a0 a1 a2 a3 true w h).mono ?_
  rintro e w' ⟨rfl, hd⟩
  exact ⟨rfl, hd⟩

/-! ### chargeparklaw05_PhasesOne: function 7 -/
def chargeparklaw05_PhasesOne.f (k : Nat) (a0 : Int) (a1 : Int) (a2 : Int) : Option (Bool) := (chargeparklaw05_head.f k).bind fun t159 => ((chargeparklaw05_amps.f a0).bind fun t160 => ((chargeparklaw05_amps.f a1).bind fun t161 => ((chargeparklaw05_amps.f a2).bind fun t162 => ((chargeparklaw05_neutral.f t160 t161 t162).bind fun t163 => (if t159 = true then (if t163 ≥ 0 then ((chargeparklaw05_neutral.f t160 0 0).bind fun t164 => (if t164 = t160 then (some (decide (t163 ≤ (wrap64 ((mx (mx t160 t161) t162) - (mn (mn t160 t161) t162)))))) else (some false))) else (some false)) else (some false))))))
theorem chargeparklaw05_PhasesOne.mono : ∀ a0 a1 a2 k, LeO (chargeparklaw05_PhasesOne.f k a0 a1 a2) (chargeparklaw05_PhasesOne.f (k + 1) a0 a1 a2) := by
  intro a0 a1 a2 k
  unfold chargeparklaw05_PhasesOne.f
  repeat' first
      | (with_reducible exact chargeparklaw05_head.mono _)
      | (with_reducible exact LeO.refl _)
      | (with_reducible exact LeO.none _)
      | (with_reducible refine LeO.ite ?_ ?_)
      | (with_reducible refine LeO.bind ?_ (fun _ => ?_))
      | exact chargeparklaw05_head.mono _
      | exact LeO.none _
      | refine LeO.ite ?_ ?_
      | refine LeO.bind ?_ (fun _ => ?_)
set_option maxHeartbeats 8000000 in
set_option maxRecDepth 100000 in
theorem chargeparklaw05_PhasesOne.calls (k : Nat) (a0 : Int) (a1 : Int) (a2 : Int) (r : Bool) (w : World) (h : chargeparklaw05_PhasesOne.f k a0 a1 a2 = some r) :
    Calls Try.prog 7 #[.int .u16 a0, .int .u16 a1, .int .u16 a2] w fun e w' => e = .returned (.bool r) ∧ Below w.heap.size w w' := by
  have HB := Aside0.mk (Below.refl w.heap.size w)
  have H : ((chargeparklaw05_head.f k).bind fun t159 => ((chargeparklaw05_amps.f a0).bind fun t160 => ((chargeparklaw05_amps.f a1).bind fun t161 => ((chargeparklaw05_amps.f a2).bind fun t162 => ((chargeparklaw05_neutral.f t160 t161 t162).bind fun t163 => (if t159 = true then (if t163 ≥ 0 then ((chargeparklaw05_neutral.f t160 0 0).bind fun t164 => (if t164 = t160 then (some (decide (t163 ≤ (wrap64 ((mx (mx t160 t161) t162) - (mn (mn t160 t161) t162)))))) else (some false))) else (some false)) else (some false))))))) = some r := h
  clear h
  replace H := Option.bind_eq_some_iff.mp H
  obtain ⟨t159, A40, H⟩ := H
  replace H : ((chargeparklaw05_amps.f a0).bind fun t160 => ((chargeparklaw05_amps.f a1).bind fun t161 => ((chargeparklaw05_amps.f a2).bind fun t162 => ((chargeparklaw05_neutral.f t160 t161 t162).bind fun t163 => (if t159 = true then (if t163 ≥ 0 then ((chargeparklaw05_neutral.f t160 0 0).bind fun t164 => (if t164 = t160 then (some (decide (t163 ≤ (wrap64 ((mx (mx t160 t161) t162) - (mn (mn t160 t161) t162)))))) else (some false))) else (some false)) else (some false)))))) = some r := H
  have A4 := Aside0.mk A40
  clear A40
  replace H := Option.bind_eq_some_iff.mp H
  obtain ⟨t160, A50, H⟩ := H
  replace H : ((chargeparklaw05_amps.f a1).bind fun t161 => ((chargeparklaw05_amps.f a2).bind fun t162 => ((chargeparklaw05_neutral.f t160 t161 t162).bind fun t163 => (if t159 = true then (if t163 ≥ 0 then ((chargeparklaw05_neutral.f t160 0 0).bind fun t164 => (if t164 = t160 then (some (decide (t163 ≤ (wrap64 ((mx (mx t160 t161) t162) - (mn (mn t160 t161) t162)))))) else (some false))) else (some false)) else (some false))))) = some r := H
  have A5 := Aside0.mk A50
  clear A50
  replace H := Option.bind_eq_some_iff.mp H
  obtain ⟨t161, A60, H⟩ := H
  replace H : ((chargeparklaw05_amps.f a2).bind fun t162 => ((chargeparklaw05_neutral.f t160 t161 t162).bind fun t163 => (if t159 = true then (if t163 ≥ 0 then ((chargeparklaw05_neutral.f t160 0 0).bind fun t164 => (if t164 = t160 then (some (decide (t163 ≤ (wrap64 ((mx (mx t160 t161) t162) - (mn (mn t160 t161) t162)))))) else (some false))) else (some false)) else (some false)))) = some r := H
  have A6 := Aside0.mk A60
  clear A60
  replace H := Option.bind_eq_some_iff.mp H
  obtain ⟨t162, A70, H⟩ := H
  replace H : ((chargeparklaw05_neutral.f t160 t161 t162).bind fun t163 => (if t159 = true then (if t163 ≥ 0 then ((chargeparklaw05_neutral.f t160 0 0).bind fun t164 => (if t164 = t160 then (some (decide (t163 ≤ (wrap64 ((mx (mx t160 t161) t162) - (mn (mn t160 t161) t162)))))) else (some false))) else (some false)) else (some false))) = some r := H
  have A7 := Aside0.mk A70
  clear A70
  replace H := Option.bind_eq_some_iff.mp H
  obtain ⟨t163, A80, H⟩ := H
  replace H : (if t159 = true then (if t163 ≥ 0 then ((chargeparklaw05_neutral.f t160 0 0).bind fun t164 => (if t164 = t160 then (some (decide (t163 ≤ (wrap64 ((mx (mx t160 t161) t162) - (mn (mn t160 t161) t162)))))) else (some false))) else (some false)) else (some false)) = some r := H
  have A8 := Aside0.mk A80
  clear A80
  by_cases c9 : t159 = true
  · subst c9
    have H1 : (if t163 ≥ 0 then ((chargeparklaw05_neutral.f t160 0 0).bind fun t164 => (if t164 = t160 then (some (decide (t163 ≤ (wrap64 ((mx (mx t160 t161) t162) - (mn (mn t160 t161) t162)))))) else (some false))) else (some false)) = some r := by rw [if_pos rfl] at H; exact H
    clear H
    have H := H1
    clear H1
    by_cases c10 : t163 ≥ 0
    · rw [if_pos c10] at H
      have c10b0 : decide (0 ≤ t163) = true := decide_eq_true c10
      clear c10
      replace H := Option.bind_eq_some_iff.mp H
      obtain ⟨t164, A110, H⟩ := H
      replace H : (if t164 = t160 then (some (decide (t163 ≤ (wrap64 ((mx (mx t160 t161) t162) - (mn (mn t160 t161) t162)))))) else (some false)) = some r := H
      have A11 := Aside0.mk A110
      clear A110
      by_cases c12 : t164 = t160
      · rw [if_pos c12] at H
        have c12b0 : (t164 == t160) = true := beq_iff_eq.mpr c12
        have c12b1 : (t164 != t160) = false := bne_eq_false_iff_eq.mpr c12
        clear c12
        obtain ⟨ji13, hji13⟩ : ∃ j_ : Int, (mx t160 t161) = j_ := ⟨_, rfl⟩
        replace H : (some (decide (t163 ≤ (wrap64 ((mx (ji13) t162) - (mn (mn t160 t161) t162)))))) = some r := by first | (rw [hji13] at H; exact H) | (simp only [hji13] at H ⊢; exact H)
        (try rw [hji13] at A4)
        (try rw [hji13] at A5)
        (try rw [hji13] at A6)
        (try rw [hji13] at A7)
        (try rw [hji13] at A8)
        (try rw [hji13] at A11)
        have hji13_ : (if t160 < t161 then t161 else t160) = ji13 := hji13
        obtain ⟨ji14, hji14⟩ : ∃ j_ : Int, (mx (ji13) t162) = j_ := ⟨_, rfl⟩
        replace H : (some (decide (t163 ≤ (wrap64 ((ji14) - (mn (mn t160 t161) t162)))))) = some r := by first | (rw [hji14] at H; exact H) | (simp only [hji14] at H ⊢; exact H)
        (try rw [hji14] at A4)
        (try rw [hji14] at A5)
        (try rw [hji14] at A6)
        (try rw [hji14] at A7)
        (try rw [hji14] at A8)
        (try rw [hji14] at A11)
        have hji14_ : (if (ji13) < t162 then t162 else (ji13)) = ji14 := hji14
        obtain ⟨ji15, hji15⟩ : ∃ j_ : Int, (mn t160 t161) = j_ := ⟨_, rfl⟩
        replace H : (some (decide (t163 ≤ (wrap64 ((ji14) - (mn (ji15) t162)))))) = some r := by first | (rw [hji15] at H; exact H) | (simp only [hji15] at H ⊢; exact H)
        (try rw [hji15] at A4)
        (try rw [hji15] at A5)
        (try rw [hji15] at A6)
        (try rw [hji15] at A7)
        (try rw [hji15] at A8)
        (try rw [hji15] at A11)
        have hji15_ : (if t161 < t160 then t161 else t160) = ji15 := hji15
        obtain ⟨ji16, hji16⟩ : ∃ j_ : Int, (mn (ji15) t162) = j_ := ⟨_, rfl⟩
        replace H : (some (decide (t163 ≤ (wrap64 ((ji14) - (ji16)))))) = some r := by first | (rw [hji16] at H; exact H) | (simp only [hji16] at H ⊢; exact H)
        (try rw [hji16] at A4)
        (try rw [hji16] at A5)
        (try rw [hji16] at A6)
        (try rw [hji16] at A7)
        (try rw [hji16] at A8)
        (try rw [hji16] at A11)
        have hji16_ : (if t162 < (ji15) then t162 else (ji15)) = ji16 := hji16
        obtain rfl := Option.some.inj H
        go_enter Try.func7, Try.ntmps7
        go_wp2_with (first | ((with_reducible refine gate_callee (f := 10) rfl ?_); refine goesL_ (some 12) rfl rfl Try.func10 (by kernel_rfl) rfl #[] rfl (by (try simp only [List.map_toArray, List.map_cons, List.map_nil]); first | done | rfl | (simp only [List.length_drop, List.length_take]; rfl)) ?_; (with_reducible refine (chargeparklaw05_head.calls k  true _ A4.out).mono ?_); rintro e w17 ⟨rfl, hb⟩; refine ⟨_, rfl, ?_⟩; have n0_ := Aside0.mk (below_step (by repeat (first | (with_reducible first | exact HB.out | apply below_alloc | apply pw_below_drewN | apply below_drew1) | exact HB.out)) hb); clear HB; have HB := n0_; clear n0_; (try clear hb); (try clear hb2); (try clear hk); (try clear hi)) | ((with_reducible refine gate_callee (f := 15) rfl ?_); refine goesL_ (some 14) rfl rfl Try.func15 (by kernel_rfl) rfl #[.int .u16 a0] rfl (by (try simp only [List.map_toArray, List.map_cons, List.map_nil]); first | done | rfl | (simp only [List.length_drop, List.length_take]; rfl)) ?_; (with_reducible refine (chargeparklaw05_amps.calls a0 t160 _ A5.out).mono ?_); rintro e w' ⟨rfl, ⟨nd, rfl⟩⟩; refine ⟨_, rfl, ?_⟩) | ((with_reducible refine gate_callee (f := 15) rfl ?_); refine goesL_ (some 16) rfl rfl Try.func15 (by kernel_rfl) rfl #[.int .u16 a1] rfl (by (try simp only [List.map_toArray, List.map_cons, List.map_nil]); first | done | rfl | (simp only [List.length_drop, List.length_take]; rfl)) ?_; (with_reducible refine (chargeparklaw05_amps.calls a1 t161 _ A6.out).mono ?_); rintro e w' ⟨rfl, ⟨nd, rfl⟩⟩; refine ⟨_, rfl, ?_⟩) | ((with_reducible refine gate_callee (f := 15) rfl ?_); refine goesL_ (some 18) rfl rfl Try.func15 (by kernel_rfl) rfl #[.int .u16 a2] rfl (by (try simp only [List.map_toArray, List.map_cons, List.map_nil]); first | done | rfl | (simp only [List.length_drop, List.length_take]; rfl)) ?_; (with_reducible refine (chargeparklaw05_amps.calls a2 t162 _ A7.out).mono ?_); rintro e w' ⟨rfl, ⟨nd, rfl⟩⟩; refine ⟨_, rfl, ?_⟩) | ((with_reducible refine gate_callee (f := 16) rfl ?_); refine goesL_ (some 22) rfl rfl Try.func16 (by kernel_rfl) rfl #[.int .i64 t160, .int .i64 t161, .int .i64 t162] rfl (by (try simp only [List.map_toArray, List.map_cons, List.map_nil]); first | done | rfl | (simp only [List.length_drop, List.length_take]; rfl)) ?_; (with_reducible refine (chargeparklaw05_neutral.calls t160 t161 t162 t163 _ A8.out).mono ?_); rintro e w18 ⟨rfl, hb⟩; refine ⟨_, rfl, ?_⟩; have n0_ := Aside0.mk (below_step (by repeat (first | (with_reducible first | exact HB.out | apply below_alloc | apply pw_below_drewN | apply below_drew1) | exact HB.out)) hb); clear HB; have HB := n0_; clear n0_; (try clear hb); (try clear hb2); (try clear hk); (try clear hi)) | (go_at_call 16; (with_reducible refine (chargeparklaw05_neutral.calls t160 0 0 t164 _ A11.out).mono ?_); rintro e w19 ⟨rfl, hb⟩; have n0_ := Aside0.mk (below_step (by repeat (first | (with_reducible first | exact HB.out | apply below_alloc | apply pw_below_drewN | apply below_drew1) | exact HB.out)) hb); clear HB; have HB := n0_; clear n0_; (try clear hb); (try clear hb2); (try clear hk); (try clear hi)))
        go_ret
        exact ⟨by first | rfl | (simp [errW_none, errW_some] <;> rfl) | (simp only [← hji13, ← hji14, ← hji15, ← hji16]; first | rfl | (simp [errW_none, errW_some] <;> rfl)) | (simp [*, errW_none, errW_some] <;> rfl), by repeat (first | (with_reducible first | exact HB.out | apply below_alloc | apply pw_below_drewN | apply below_drew1) | exact HB.out)⟩
      · rw [if_neg c12] at H
        have c12b0 : (t164 == t160) = false := beq_eq_false_iff_ne.mpr c12
        have c12b1 : (t164 != t160) = true := bne_iff_ne.mpr c12
        obtain rfl := Option.some.inj H
        go_enter Try.func7, Try.ntmps7
        go_wp2_with (first | ((with_reducible refine gate_callee (f := 10) rfl ?_); refine goesL_ (some 12) rfl rfl Try.func10 (by kernel_rfl) rfl #[] rfl (by (try simp only [List.map_toArray, List.map_cons, List.map_nil]); first | done | rfl | (simp only [List.length_drop, List.length_take]; rfl)) ?_; (with_reducible refine (chargeparklaw05_head.calls k  true _ A4.out).mono ?_); rintro e w20 ⟨rfl, hb⟩; refine ⟨_, rfl, ?_⟩; have n0_ := Aside0.mk (below_step (by repeat (first | (with_reducible first | exact HB.out | apply below_alloc | apply pw_below_drewN | apply below_drew1) | exact HB.out)) hb); clear HB; have HB := n0_; clear n0_; (try clear hb); (try clear hb2); (try clear hk); (try clear hi)) | ((with_reducible refine gate_callee (f := 15) rfl ?_); refine goesL_ (some 14) rfl rfl Try.func15 (by kernel_rfl) rfl #[.int .u16 a0] rfl (by (try simp only [List.map_toArray, List.map_cons, List.map_nil]); first | done | rfl | (simp only [List.length_drop, List.length_take]; rfl)) ?_; (with_reducible refine (chargeparklaw05_amps.calls a0 t160 _ A5.out).mono ?_); rintro e w' ⟨rfl, ⟨nd, rfl⟩⟩; refine ⟨_, rfl, ?_⟩) | ((with_reducible refine gate_callee (f := 15) rfl ?_); refine goesL_ (some 16) rfl rfl Try.func15 (by kernel_rfl) rfl #[.int .u16 a1] rfl (by (try simp only [List.map_toArray, List.map_cons, List.map_nil]); first | done | rfl | (simp only [List.length_drop, List.length_take]; rfl)) ?_; (with_reducible refine (chargeparklaw05_amps.calls a1 t161 _ A6.out).mono ?_); rintro e w' ⟨rfl, ⟨nd, rfl⟩⟩; refine ⟨_, rfl, ?_⟩) | ((with_reducible refine gate_callee (f := 15) rfl ?_); refine goesL_ (some 18) rfl rfl Try.func15 (by kernel_rfl) rfl #[.int .u16 a2] rfl (by (try simp only [List.map_toArray, List.map_cons, List.map_nil]); first | done | rfl | (simp only [List.length_drop, List.length_take]; rfl)) ?_; (with_reducible refine (chargeparklaw05_amps.calls a2 t162 _ A7.out).mono ?_); rintro e w' ⟨rfl, ⟨nd, rfl⟩⟩; refine ⟨_, rfl, ?_⟩) | ((with_reducible refine gate_callee (f := 16) rfl ?_); refine goesL_ (some 22) rfl rfl Try.func16 (by kernel_rfl) rfl #[.int .i64 t160, .int .i64 t161, .int .i64 t162] rfl (by (try simp only [List.map_toArray, List.map_cons, List.map_nil]); first | done | rfl | (simp only [List.length_drop, List.length_take]; rfl)) ?_; (with_reducible refine (chargeparklaw05_neutral.calls t160 t161 t162 t163 _ A8.out).mono ?_); rintro e w21 ⟨rfl, hb⟩; refine ⟨_, rfl, ?_⟩; have n0_ := Aside0.mk (below_step (by repeat (first | (with_reducible first | exact HB.out | apply below_alloc | apply pw_below_drewN | apply below_drew1) | exact HB.out)) hb); clear HB; have HB := n0_; clear n0_; (try clear hb); (try clear hb2); (try clear hk); (try clear hi)) | (go_at_call 16; (with_reducible refine (chargeparklaw05_neutral.calls t160 0 0 t164 _ A11.out).mono ?_); rintro e w22 ⟨rfl, hb⟩; have n0_ := Aside0.mk (below_step (by repeat (first | (with_reducible first | exact HB.out | apply below_alloc | apply pw_below_drewN | apply below_drew1) | exact HB.out)) hb); clear HB; have HB := n0_; clear n0_; (try clear hb); (try clear hb2); (try clear hk); (try clear hi)))
        go_ret
        exact ⟨by first | rfl | (simp [errW_none, errW_some] <;> rfl) | (simp [*, errW_none, errW_some] <;> rfl), by repeat (first | (with_reducible first | exact HB.out | apply below_alloc | apply pw_below_drewN | apply below_drew1) | exact HB.out)⟩
    · rw [if_neg c10] at H
      have c10b0 : decide (0 ≤ t163) = false := decide_eq_false c10
      clear c10
      obtain rfl := Option.some.inj H
      go_enter Try.func7, Try.ntmps7
      go_wp2_with (first | ((with_reducible refine gate_callee (f := 10) rfl ?_); refine goesL_ (some 12) rfl rfl Try.func10 (by kernel_rfl) rfl #[] rfl (by (try simp only [List.map_toArray, List.map_cons, List.map_nil]); first | done | rfl | (simp only [List.length_drop, List.length_take]; rfl)) ?_; (with_reducible refine (chargeparklaw05_head.calls k  true _ A4.out).mono ?_); rintro e w23 ⟨rfl, hb⟩; refine ⟨_, rfl, ?_⟩; have n0_ := Aside0.mk (below_step (by repeat (first | (with_reducible first | exact HB.out | apply below_alloc | apply pw_below_drewN | apply below_drew1) | exact HB.out)) hb); clear HB; have HB := n0_; clear n0_; (try clear hb); (try clear hb2); (try clear hk); (try clear hi)) | ((with_reducible refine gate_callee (f := 15) rfl ?_); refine goesL_ (some 14) rfl rfl Try.func15 (by kernel_rfl) rfl #[.int .u16 a0] rfl (by (try simp only [List.map_toArray, List.map_cons, List.map_nil]); first | done | rfl | (simp only [List.length_drop, List.length_take]; rfl)) ?_; (with_reducible refine (chargeparklaw05_amps.calls a0 t160 _ A5.out).mono ?_); rintro e w' ⟨rfl, ⟨nd, rfl⟩⟩; refine ⟨_, rfl, ?_⟩) | ((with_reducible refine gate_callee (f := 15) rfl ?_); refine goesL_ (some 16) rfl rfl Try.func15 (by kernel_rfl) rfl #[.int .u16 a1] rfl (by (try simp only [List.map_toArray, List.map_cons, List.map_nil]); first | done | rfl | (simp only [List.length_drop, List.length_take]; rfl)) ?_; (with_reducible refine (chargeparklaw05_amps.calls a1 t161 _ A6.out).mono ?_); rintro e w' ⟨rfl, ⟨nd, rfl⟩⟩; refine ⟨_, rfl, ?_⟩) | ((with_reducible refine gate_callee (f := 15) rfl ?_); refine goesL_ (some 18) rfl rfl Try.func15 (by kernel_rfl) rfl #[.int .u16 a2] rfl (by (try simp only [List.map_toArray, List.map_cons, List.map_nil]); first | done | rfl | (simp only [List.length_drop, List.length_take]; rfl)) ?_; (with_reducible refine (chargeparklaw05_amps.calls a2 t162 _ A7.out).mono ?_); rintro e w' ⟨rfl, ⟨nd, rfl⟩⟩; refine ⟨_, rfl, ?_⟩) | ((with_reducible refine gate_callee (f := 16) rfl ?_); refine goesL_ (some 22) rfl rfl Try.func16 (by kernel_rfl) rfl #[.int .i64 t160, .int .i64 t161, .int .i64 t162] rfl (by (try simp only [List.map_toArray, List.map_cons, List.map_nil]); first | done | rfl | (simp only [List.length_drop, List.length_take]; rfl)) ?_; (with_reducible refine (chargeparklaw05_neutral.calls t160 t161 t162 t163 _ A8.out).mono ?_); rintro e w24 ⟨rfl, hb⟩; refine ⟨_, rfl, ?_⟩; have n0_ := Aside0.mk (below_step (by repeat (first | (with_reducible first | exact HB.out | apply below_alloc | apply pw_below_drewN | apply below_drew1) | exact HB.out)) hb); clear HB; have HB := n0_; clear n0_; (try clear hb); (try clear hb2); (try clear hk); (try clear hi)))
      go_ret
      exact ⟨by first | rfl | (simp [errW_none, errW_some] <;> rfl) | (simp [*, errW_none, errW_some] <;> rfl), by repeat (first | (with_reducible first | exact HB.out | apply below_alloc | apply pw_below_drewN | apply below_drew1) | exact HB.out)⟩
  · replace c9 := Bool.eq_false_iff.mpr c9
    subst c9
    have H1 : (some false) = some r := by rw [if_neg (show ¬ (false = true) by decide)] at H; exact H
    clear H
    have H := H1
    clear H1
    obtain rfl := Option.some.inj H
    go_enter Try.func7, Try.ntmps7
    go_wp2_with (first | ((with_reducible refine gate_callee (f := 10) rfl ?_); refine goesL_ (some 12) rfl rfl Try.func10 (by kernel_rfl) rfl #[] rfl (by (try simp only [List.map_toArray, List.map_cons, List.map_nil]); first | done | rfl | (simp only [List.length_drop, List.length_take]; rfl)) ?_; (with_reducible refine (chargeparklaw05_head.calls k  false _ A4.out).mono ?_); rintro e w25 ⟨rfl, hb⟩; refine ⟨_, rfl, ?_⟩; have n0_ := Aside0.mk (below_step (by repeat (first | (with_reducible first | exact HB.out | apply below_alloc | apply pw_below_drewN | apply below_drew1) | exact HB.out)) hb); clear HB; have HB := n0_; clear n0_; (try clear hb); (try clear hb2); (try clear hk); (try clear hi)) | ((with_reducible refine gate_callee (f := 15) rfl ?_); refine goesL_ (some 14) rfl rfl Try.func15 (by kernel_rfl) rfl #[.int .u16 a0] rfl (by (try simp only [List.map_toArray, List.map_cons, List.map_nil]); first | done | rfl | (simp only [List.length_drop, List.length_take]; rfl)) ?_; (with_reducible refine (chargeparklaw05_amps.calls a0 t160 _ A5.out).mono ?_); rintro e w' ⟨rfl, ⟨nd, rfl⟩⟩; refine ⟨_, rfl, ?_⟩) | ((with_reducible refine gate_callee (f := 15) rfl ?_); refine goesL_ (some 16) rfl rfl Try.func15 (by kernel_rfl) rfl #[.int .u16 a1] rfl (by (try simp only [List.map_toArray, List.map_cons, List.map_nil]); first | done | rfl | (simp only [List.length_drop, List.length_take]; rfl)) ?_; (with_reducible refine (chargeparklaw05_amps.calls a1 t161 _ A6.out).mono ?_); rintro e w' ⟨rfl, ⟨nd, rfl⟩⟩; refine ⟨_, rfl, ?_⟩) | ((with_reducible refine gate_callee (f := 15) rfl ?_); refine goesL_ (some 18) rfl rfl Try.func15 (by kernel_rfl) rfl #[.int .u16 a2] rfl (by (try simp only [List.map_toArray, List.map_cons, List.map_nil]); first | done | rfl | (simp only [List.length_drop, List.length_take]; rfl)) ?_; (with_reducible refine (chargeparklaw05_amps.calls a2 t162 _ A7.out).mono ?_); rintro e w' ⟨rfl, ⟨nd, rfl⟩⟩; refine ⟨_, rfl, ?_⟩) | ((with_reducible refine gate_callee (f := 16) rfl ?_); refine goesL_ (some 22) rfl rfl Try.func16 (by kernel_rfl) rfl #[.int .i64 t160, .int .i64 t161, .int .i64 t162] rfl (by (try simp only [List.map_toArray, List.map_cons, List.map_nil]); first | done | rfl | (simp only [List.length_drop, List.length_take]; rfl)) ?_; (with_reducible refine (chargeparklaw05_neutral.calls t160 t161 t162 t163 _ A8.out).mono ?_); rintro e w26 ⟨rfl, hb⟩; refine ⟨_, rfl, ?_⟩; have n0_ := Aside0.mk (below_step (by repeat (first | (with_reducible first | exact HB.out | apply below_alloc | apply pw_below_drewN | apply below_drew1) | exact HB.out)) hb); clear HB; have HB := n0_; clear n0_; (try clear hb); (try clear hb2); (try clear hk); (try clear hi)))
    go_ret
    exact ⟨by first | rfl | (simp [errW_none, errW_some] <;> rfl) | (simp [*, errW_none, errW_some] <;> rfl), by repeat (first | (with_reducible first | exact HB.out | apply below_alloc | apply pw_below_drewN | apply below_drew1) | exact HB.out)⟩

/-- THE ONE PURE STATEMENT of chargeparklaw05_PhasesOne: yours. -/
def chargeparklaw05_PhasesOne.Pure : Prop := ∀ (a0 : Int) (a1 : Int) (a2 : Int), (Lit.int .u16 a0).wf = true → (Lit.int .u16 a1).wf = true → (Lit.int .u16 a2).wf = true → ∃ k, chargeparklaw05_PhasesOne.f k a0 a1 a2 = some true
theorem chargeparklaw05_PhasesOne.walk (P : chargeparklaw05_PhasesOne.Pure) (a0 : Int) (a1 : Int) (a2 : Int) (w : World) (w0 : (Lit.int .u16 a0).wf = true) (w1 : (Lit.int .u16 a1).wf = true) (w2 : (Lit.int .u16 a2).wf = true) :
    Calls Try.prog 7 #[.int .u16 a0, .int .u16 a1, .int .u16 a2] w fun e w' => e = .returned (.bool true) ∧ Below w.heap.size w w' := by
  obtain ⟨k, h⟩ := P a0 a1 a2 w0 w1 w2
  refine (chargeparklaw05_PhasesOne.calls k a0 a1 a2 true w h).mono ?_
  rintro e w' ⟨rfl, hd⟩
  exact ⟨rfl, hd⟩

end Go.Proofs.Ytihfcnhiknljpaa.Q
