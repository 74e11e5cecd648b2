import Derived.Test.YtpdmnineampimaaYe
import Derived.Test.YtpdmnineampimaaYQx34
import Derived.Test.YtpdmnineampimaaYQx35
set_option linter.unusedVariables false
set_option linter.unusedSimpArgs false
namespace Go.Proofs.Ytpdmnineampimaa.Q
open Go.RowKit Go.Proofs.YtpdmnineampimaaW.PrintWords Go.Proofs.YtpdmnineampimaaW.PrintLast Go.Proofs.YtpdmnineampimaaW.PrintMore
attribute [local go_sem] max2_int min2_int max_two min_two max_three min_three max_four min_four
def r02_Name.l0 : Nat → ByteArray → Int → Option (Bool)
  | 0, _, _ => none
  | k + 1, x0, x3 => if x3 < (x0.size : Int) then (if 0 ≤ x3 then (if (bt x0 x3) < 97 then (if x3 = 0 then (some false) else (if (bt x0 x3) < 48 then (if (bt x0 x3) = 95 then (r02_Name.l0 k x0 (wrap64 (x3 + 1))) else (some false)) else (if (bt x0 x3) > 57 then (if (bt x0 x3) = 95 then (r02_Name.l0 k x0 (wrap64 (x3 + 1))) else (some false)) else (r02_Name.l0 k x0 (wrap64 (x3 + 1)))))) else (if (bt x0 x3) > 122 then (if x3 = 0 then (some false) else (if (bt x0 x3) < 48 then (if (bt x0 x3) = 95 then (r02_Name.l0 k x0 (wrap64 (x3 + 1))) else (some false)) else (if (bt x0 x3) > 57 then (if (bt x0 x3) = 95 then (r02_Name.l0 k x0 (wrap64 (x3 + 1))) else (some false)) else (r02_Name.l0 k x0 (wrap64 (x3 + 1)))))) else (r02_Name.l0 k x0 (wrap64 (x3 + 1))))) else (none)) else ((r02_Kinds.f).bind fun t288 => ((r02_In.f k t288 x0).bind fun t291 => (if t291 ≥ 0 then (if (x0.size : Int) ≥ 1 then (if (x0.size : Int) ≤ 12 then (some (!true)) else (some false)) else (some false)) else ((r02_Attrs.f).bind fun t292 => ((r02_In.f k t292 x0).bind fun t295 => (if t295 ≥ 0 then (if (x0.size : Int) ≥ 1 then (if (x0.size : Int) ≤ 12 then (some (!true)) else (some false)) else (some false)) else ((r02_Articles.f).bind fun t296 => ((r02_In.f k t296 x0).bind fun t299 => (if t299 ≥ 0 then (if (x0.size : Int) ≥ 1 then (if (x0.size : Int) ≤ 12 then (some (!true)) else (some false)) else (some false)) else ((r02_Words.f).bind fun t300 => ((r02_In.f k t300 x0).bind fun t303 => (if (x0.size : Int) ≥ 1 then (if (x0.size : Int) ≤ 12 then (some (!(decide (t303 ≥ 0)))) else (some false)) else (some false)))))))))))))
def r02_Name.f (k : Nat) (a0 : ByteArray) : Option (Bool) := r02_Name.l0 k a0 0
theorem r02_Name.mono_l : ∀ k, (∀ y0 y1, LeO (r02_Name.l0 k y0 y1) (r02_Name.l0 (k + 1) y0 y1))
  | 0 => fun _ _ r h => by simp [r02_Name.l0] at h
  | k + 1 => by
    have ih0 := r02_Name.mono_l k
    · intro y0 y1
      unfold r02_Name.l0
      repeat' first | (with_reducible apply ih0) | (with_reducible exact r02_In.mono _ _ _) | (with_reducible exact LeO.refl _) | (with_reducible exact LeO.none _) | (with_reducible refine LeO.ite ?_ ?_) | (with_reducible refine LeO.bind ?_ (fun _ => ?_))
theorem r02_Name.mono : ∀ a0 k, LeO (r02_Name.f k a0) (r02_Name.f (k + 1) a0) := by
  intro a0 k
  have ih0 := r02_Name.mono_l k
  unfold r02_Name.f
  repeat' first | (with_reducible apply ih0) | (with_reducible exact r02_In.mono _ _ _) | (with_reducible exact LeO.refl _) | (with_reducible exact LeO.none _) | (with_reducible refine LeO.ite ?_ ?_) | (with_reducible refine LeO.bind ?_ (fun _ => ?_))
set_option maxHeartbeats 8000000 in
set_option maxRecDepth 100000 in
theorem r02_Name.calls (k : Nat) (a0 : ByteArray) (r : Bool) (w : World) (h : r02_Name.f k a0 = some r) :
    Calls Try.prog 52 #[.string a0] w fun e w' => e = .returned (.bool r) ∧ Below w.heap.size w w' := by
 have HB := Aside0.mk (Below.refl w.heap.size w)
 (try unfold r02_Name.f at h)
 have H := h
 clear h
 have H' := Aside0.mk H
 clear H
 go_enter Try.func52, Try.ntmps52
 go_wp2
 go_loopg [3] k (fun kq v3 w' => ∃ (x3_1 : Int), v3 = .int .i64 x3_1 ∧ Aside0 (r02_Name.l0 kq a0 x3_1 = some r) ∧ Aside0 (kq ≤ k) ∧ Aside0 (Below w.heap.size w w'))
 case atStart => exact ⟨(0), tQ, H', ⟨Nat.le_refl _⟩, ⟨kB HB⟩⟩
 case round =>
  clear H'
  obtain ⟨x3_1, rfl, HA, HK1, HB⟩ := hrel
  cases gk with
  | zero => exact absurd HA.out (by simp [r02_Name.l0])
  | succ k1 =>
   have H := HA.out
   clear HA
   simp only [r02_Name.l0] at H
   by_cases c2 : x3_1 < (a0.size : Int)
   ·rw [if_pos c2] at H
    have c2b0 : decide (x3_1 < (a0.size : Int)) = true := decide_eq_true c2
    clear c2
    by_cases c3 : 0 ≤ x3_1
    rotate_left
    ·rw [if_neg c3] at H
     exact absurd H (by simp)
    rw [if_pos c3] at H
    have c3b0 : decide (0 ≤ x3_1) = true := decide_eq_true c3
    clear c3
    by_cases c5 : (bt a0 x3_1) < 97
    ·rw [if_pos c5] at H
     have c5b0 : decide ((bt a0 x3_1) < 97) = true := decide_eq_true c5
     clear c5
     by_cases c6 : x3_1 = 0
     ·rw [if_pos c6] at H
      have c6b0 : (x3_1 == 0) = true := beq_iff_eq.mpr c6
      have c6b1 : (x3_1 != 0) = false := bne_eq_false_iff_eq.mpr c6
      clear c6
      obtain rfl := Option.some.inj H
      have p4 : 0 ≤ (x3_1 : Int) := tD
      have q4 : x3_1 < (a0.size : Int) := tD
      have hx4 := bt_at a0 x3_1
      replace p4 := eq_true p4
      replace q4 := eq_true q4
      go_wp2
      go_ret
      exact ⟨tE, kB HB⟩
     rw [if_neg c6] at H
     have c6b0 : (x3_1 == 0) = false := beq_eq_false_iff_ne.mpr c6
     have c6b1 : (x3_1 != 0) = true := bne_iff_ne.mpr c6
     by_cases c7 : (bt a0 x3_1) < 48
     ·rw [if_pos c7] at H
      have c7b0 : decide ((bt a0 x3_1) < 48) = true := decide_eq_true c7
      clear c7
      by_cases c8 : (bt a0 x3_1) = 95
      rotate_left
      ·rw [if_neg c8] at H
       have c8b0 : ((bt a0 x3_1) == 95) = false := beq_eq_false_iff_ne.mpr c8
       have c8b1 : ((bt a0 x3_1) != 95) = true := bne_iff_ne.mpr c8
       obtain rfl := Option.some.inj H
       have p4 : 0 ≤ (x3_1 : Int) := tD
       have q4 : x3_1 < (a0.size : Int) := tD
       have hx4 := bt_at a0 x3_1
       replace p4 := eq_true p4
       replace q4 := eq_true q4
       go_wp2
       go_ret
       exact ⟨tE, kB HB⟩
      rw [if_pos c8] at H
      have c8b0 : ((bt a0 x3_1) == 95) = true := beq_iff_eq.mpr c8
      have c8b1 : ((bt a0 x3_1) != 95) = false := bne_eq_false_iff_eq.mpr c8
      clear c8
      have H' := Aside0.mk H
      clear H
      have p4 : 0 ≤ (x3_1 : Int) := tD
      have q4 : x3_1 < (a0.size : Int) := tD
      have hx4 := bt_at a0 x3_1
      replace p4 := eq_true p4
      replace q4 := eq_true q4
      go_wp2
      go_roundg k1
      case measure => have := HK1.out; omega
      case rel => exact ⟨(wrap64 (x3_1 + 1)), tQ, H', ⟨kO HK1⟩, ⟨kB HB⟩⟩
     rw [if_neg c7] at H
     have c7b0 : decide ((bt a0 x3_1) < 48) = false := decide_eq_false c7
     clear c7
     by_cases c9 : (bt a0 x3_1) > 57
     rotate_left
     ·rw [if_neg c9] at H
      have c9b0 : decide (57 < (bt a0 x3_1)) = false := decide_eq_false c9
      clear c9
      have H' := Aside0.mk H
      clear H
      have p4 : 0 ≤ (x3_1 : Int) := tD
      have q4 : x3_1 < (a0.size : Int) := tD
      have hx4 := bt_at a0 x3_1
      replace p4 := eq_true p4
      replace q4 := eq_true q4
      go_wp2
      go_roundg k1
      case measure => have := HK1.out; omega
      case rel => exact ⟨(wrap64 (x3_1 + 1)), tQ, H', ⟨kO HK1⟩, ⟨kB HB⟩⟩
     rw [if_pos c9] at H
     have c9b0 : decide (57 < (bt a0 x3_1)) = true := decide_eq_true c9
     clear c9
     by_cases c10 : (bt a0 x3_1) = 95
     rotate_left
     ·rw [if_neg c10] at H
      have c10b0 : ((bt a0 x3_1) == 95) = false := beq_eq_false_iff_ne.mpr c10
      have c10b1 : ((bt a0 x3_1) != 95) = true := bne_iff_ne.mpr c10
      obtain rfl := Option.some.inj H
      have p4 : 0 ≤ (x3_1 : Int) := tD
      have q4 : x3_1 < (a0.size : Int) := tD
      have hx4 := bt_at a0 x3_1
      replace p4 := eq_true p4
      replace q4 := eq_true q4
      go_wp2
      go_ret
      exact ⟨tE, kB HB⟩
     rw [if_pos c10] at H
     have c10b0 : ((bt a0 x3_1) == 95) = true := beq_iff_eq.mpr c10
     have c10b1 : ((bt a0 x3_1) != 95) = false := bne_eq_false_iff_eq.mpr c10
     clear c10
     have H' := Aside0.mk H
     clear H
     have p4 : 0 ≤ (x3_1 : Int) := tD
     have q4 : x3_1 < (a0.size : Int) := tD
     have hx4 := bt_at a0 x3_1
     replace p4 := eq_true p4
     replace q4 := eq_true q4
     go_wp2
     go_roundg k1
     case measure => have := HK1.out; omega
     case rel => exact ⟨(wrap64 (x3_1 + 1)), tQ, H', ⟨kO HK1⟩, ⟨kB HB⟩⟩
    rw [if_neg c5] at H
    have c5b0 : decide ((bt a0 x3_1) < 97) = false := decide_eq_false c5
    clear c5
    by_cases c11 : (bt a0 x3_1) > 122
    rotate_left
    ·rw [if_neg c11] at H
     have c11b0 : decide (122 < (bt a0 x3_1)) = false := decide_eq_false c11
     clear c11
     have H' := Aside0.mk H
     clear H
     have p4 : 0 ≤ (x3_1 : Int) := tD
     have q4 : x3_1 < (a0.size : Int) := tD
     have hx4 := bt_at a0 x3_1
     replace p4 := eq_true p4
     replace q4 := eq_true q4
     go_wp2
     go_roundg k1
     case measure => have := HK1.out; omega
     case rel => exact ⟨(wrap64 (x3_1 + 1)), tQ, H', ⟨kO HK1⟩, ⟨kB HB⟩⟩
    rw [if_pos c11] at H
    have c11b0 : decide (122 < (bt a0 x3_1)) = true := decide_eq_true c11
    clear c11
    by_cases c12 : x3_1 = 0
    ·rw [if_pos c12] at H
     have c12b0 : (x3_1 == 0) = true := beq_iff_eq.mpr c12
     have c12b1 : (x3_1 != 0) = false := bne_eq_false_iff_eq.mpr c12
     clear c12
     obtain rfl := Option.some.inj H
     have p4 : 0 ≤ (x3_1 : Int) := tD
     have q4 : x3_1 < (a0.size : Int) := tD
     have hx4 := bt_at a0 x3_1
     replace p4 := eq_true p4
     replace q4 := eq_true q4
     go_wp2
     go_ret
     exact ⟨tE, kB HB⟩
    rw [if_neg c12] at H
    have c12b0 : (x3_1 == 0) = false := beq_eq_false_iff_ne.mpr c12
    have c12b1 : (x3_1 != 0) = true := bne_iff_ne.mpr c12
    by_cases c13 : (bt a0 x3_1) < 48
    ·rw [if_pos c13] at H
     have c13b0 : decide ((bt a0 x3_1) < 48) = true := decide_eq_true c13
     clear c13
     by_cases c14 : (bt a0 x3_1) = 95
     rotate_left
     ·rw [if_neg c14] at H
      have c14b0 : ((bt a0 x3_1) == 95) = false := beq_eq_false_iff_ne.mpr c14
      have c14b1 : ((bt a0 x3_1) != 95) = true := bne_iff_ne.mpr c14
      obtain rfl := Option.some.inj H
      have p4 : 0 ≤ (x3_1 : Int) := tD
      have q4 : x3_1 < (a0.size : Int) := tD
      have hx4 := bt_at a0 x3_1
      replace p4 := eq_true p4
      replace q4 := eq_true q4
      go_wp2
      go_ret
      exact ⟨tE, kB HB⟩
     rw [if_pos c14] at H
     have c14b0 : ((bt a0 x3_1) == 95) = true := beq_iff_eq.mpr c14
     have c14b1 : ((bt a0 x3_1) != 95) = false := bne_eq_false_iff_eq.mpr c14
     clear c14
     have H' := Aside0.mk H
     clear H
     have p4 : 0 ≤ (x3_1 : Int) := tD
     have q4 : x3_1 < (a0.size : Int) := tD
     have hx4 := bt_at a0 x3_1
     replace p4 := eq_true p4
     replace q4 := eq_true q4
     go_wp2
     go_roundg k1
     case measure => have := HK1.out; omega
     case rel => exact ⟨(wrap64 (x3_1 + 1)), tQ, H', ⟨kO HK1⟩, ⟨kB HB⟩⟩
    rw [if_neg c13] at H
    have c13b0 : decide ((bt a0 x3_1) < 48) = false := decide_eq_false c13
    clear c13
    by_cases c15 : (bt a0 x3_1) > 57
    rotate_left
    ·rw [if_neg c15] at H
     have c15b0 : decide (57 < (bt a0 x3_1)) = false := decide_eq_false c15
     clear c15
     have H' := Aside0.mk H
     clear H
     have p4 : 0 ≤ (x3_1 : Int) := tD
     have q4 : x3_1 < (a0.size : Int) := tD
     have hx4 := bt_at a0 x3_1
     replace p4 := eq_true p4
     replace q4 := eq_true q4
     go_wp2
     go_roundg k1
     case measure => have := HK1.out; omega
     case rel => exact ⟨(wrap64 (x3_1 + 1)), tQ, H', ⟨kO HK1⟩, ⟨kB HB⟩⟩
    rw [if_pos c15] at H
    have c15b0 : decide (57 < (bt a0 x3_1)) = true := decide_eq_true c15
    clear c15
    by_cases c16 : (bt a0 x3_1) = 95
    rotate_left
    ·rw [if_neg c16] at H
     have c16b0 : ((bt a0 x3_1) == 95) = false := beq_eq_false_iff_ne.mpr c16
     have c16b1 : ((bt a0 x3_1) != 95) = true := bne_iff_ne.mpr c16
     obtain rfl := Option.some.inj H
     have p4 : 0 ≤ (x3_1 : Int) := tD
     have q4 : x3_1 < (a0.size : Int) := tD
     have hx4 := bt_at a0 x3_1
     replace p4 := eq_true p4
     replace q4 := eq_true q4
     go_wp2
     go_ret
     exact ⟨tE, kB HB⟩
    rw [if_pos c16] at H
    have c16b0 : ((bt a0 x3_1) == 95) = true := beq_iff_eq.mpr c16
    have c16b1 : ((bt a0 x3_1) != 95) = false := bne_eq_false_iff_eq.mpr c16
    clear c16
    have H' := Aside0.mk H
    clear H
    have p4 : 0 ≤ (x3_1 : Int) := tD
    have q4 : x3_1 < (a0.size : Int) := tD
    have hx4 := bt_at a0 x3_1
    replace p4 := eq_true p4
    replace q4 := eq_true q4
    go_wp2
    go_roundg k1
    case measure => have := HK1.out; omega
    case rel => exact ⟨(wrap64 (x3_1 + 1)), tQ, H', ⟨kO HK1⟩, ⟨kB HB⟩⟩
   rw [if_neg c2] at H
   have c2b0 : decide (x3_1 < (a0.size : Int)) = false := decide_eq_false c2
   clear c2
   obtain ⟨t288, A17, H⟩ := bnd H
   obtain ⟨t291, A18, H⟩ := bnd H
   by_cases c19 : t291 ≥ 0
   ·rw [if_pos c19] at H
    have c19b0 : decide (0 ≤ t291) = true := decide_eq_true c19
    clear c19
    by_cases c20 : (a0.size : Int) ≥ 1
    rotate_left
    ·rw [if_neg c20] at H
     have c20b0 : decide (1 ≤ (a0.size : Int)) = false := decide_eq_false c20
     have c20b1 : decide (1 ≤ a0.size) = false := decide_eq_false (by omega)
     clear c20
     obtain rfl := Option.some.inj H
     go_wp2_with (first | ((with_reducible refine gate_callee (f := 59) rfl ?_); refine gL (some 37) Try.func59 #[] (r02_Kinds.calls  t288 _ A17.out) ?_; rintro e w26 ⟨v289, rfl, ho0, hb⟩; refine ⟨_, rfl, ?_⟩; have HO290 := Aside0.mk (Kd.R_lower ho0 (below_size (kB HB))); replace HB := bS (kB HB) hb; obtain ⟨Ao27, co27, eo27⟩ := Kd.R_slice HO290.out; subst eo27) | ((with_reducible refine gate_callee (f := 58) rfl ?_); refine gL (some 39) Try.func58 #[.slice Ao27 t288.length co27, .string a0] (r02_In.calls k1 _ _ t288 a0 t291 _ (kC (Kd.R_reads' HO290.out).2.2) ((Kd.R_reads' HO290.out).2.1) A18.out) ?_; rintro e w' ⟨rfl, ⟨nd, rfl⟩⟩; refine ⟨_, rfl, ?_⟩))
     go_ret
     exact ⟨tE, kB HB⟩
    rw [if_pos c20] at H
    have c20b0 : decide (1 ≤ (a0.size : Int)) = true := decide_eq_true c20
    have c20b1 : decide (1 ≤ a0.size) = true := decide_eq_true (by omega)
    clear c20
    by_cases c21 : (a0.size : Int) ≤ 12
    ·rw [if_pos c21] at H
     have c21b0 : decide ((a0.size : Int) ≤ 12) = true := decide_eq_true c21
     have c21b1 : decide (a0.size ≤ 12) = true := decide_eq_true (by omega)
     clear c21
     obtain rfl := Option.some.inj H
     go_wp2_with (first | ((with_reducible refine gate_callee (f := 59) rfl ?_); refine gL (some 37) Try.func59 #[] (r02_Kinds.calls  t288 _ A17.out) ?_; rintro e w22 ⟨v289, rfl, ho0, hb⟩; refine ⟨_, rfl, ?_⟩; have HO290 := Aside0.mk (Kd.R_lower ho0 (below_size (kB HB))); replace HB := bS (kB HB) hb; obtain ⟨Ao23, co23, eo23⟩ := Kd.R_slice HO290.out; subst eo23) | ((with_reducible refine gate_callee (f := 58) rfl ?_); refine gL (some 39) Try.func58 #[.slice Ao23 t288.length co23, .string a0] (r02_In.calls k1 _ _ t288 a0 t291 _ (kC (Kd.R_reads' HO290.out).2.2) ((Kd.R_reads' HO290.out).2.1) A18.out) ?_; rintro e w' ⟨rfl, ⟨nd, rfl⟩⟩; refine ⟨_, rfl, ?_⟩))
     go_ret
     exact ⟨tE, kB HB⟩
    rw [if_neg c21] at H
    have c21b0 : decide ((a0.size : Int) ≤ 12) = false := decide_eq_false c21
    have c21b1 : decide (a0.size ≤ 12) = false := decide_eq_false (by omega)
    clear c21
    obtain rfl := Option.some.inj H
    go_wp2_with (first | ((with_reducible refine gate_callee (f := 59) rfl ?_); refine gL (some 37) Try.func59 #[] (r02_Kinds.calls  t288 _ A17.out) ?_; rintro e w24 ⟨v289, rfl, ho0, hb⟩; refine ⟨_, rfl, ?_⟩; have HO290 := Aside0.mk (Kd.R_lower ho0 (below_size (kB HB))); replace HB := bS (kB HB) hb; obtain ⟨Ao25, co25, eo25⟩ := Kd.R_slice HO290.out; subst eo25) | ((with_reducible refine gate_callee (f := 58) rfl ?_); refine gL (some 39) Try.func58 #[.slice Ao25 t288.length co25, .string a0] (r02_In.calls k1 _ _ t288 a0 t291 _ (kC (Kd.R_reads' HO290.out).2.2) ((Kd.R_reads' HO290.out).2.1) A18.out) ?_; rintro e w' ⟨rfl, ⟨nd, rfl⟩⟩; refine ⟨_, rfl, ?_⟩))
    go_ret
    exact ⟨tE, kB HB⟩
   rw [if_neg c19] at H
   have c19b0 : decide (0 ≤ t291) = false := decide_eq_false c19
   clear c19
   obtain ⟨t292, A28, H⟩ := bnd H
   obtain ⟨t295, A29, H⟩ := bnd H
   by_cases c30 : t295 ≥ 0
   ·rw [if_pos c30] at H
    have c30b0 : decide (0 ≤ t295) = true := decide_eq_true c30
    clear c30
    by_cases c31 : (a0.size : Int) ≥ 1
    rotate_left
    ·rw [if_neg c31] at H
     have c31b0 : decide (1 ≤ (a0.size : Int)) = false := decide_eq_false c31
     have c31b1 : decide (1 ≤ a0.size) = false := decide_eq_false (by omega)
     clear c31
     obtain rfl := Option.some.inj H
     go_wp2_with (first | ((with_reducible refine gate_callee (f := 59) rfl ?_); refine gL (some 37) Try.func59 #[] (r02_Kinds.calls  t288 _ A17.out) ?_; rintro e w41 ⟨v289, rfl, ho0, hb⟩; refine ⟨_, rfl, ?_⟩; have HO290 := Aside0.mk (Kd.R_lower ho0 (below_size (kB HB))); replace HB := bS (kB HB) hb; obtain ⟨Ao42, co42, eo42⟩ := Kd.R_slice HO290.out; subst eo42) | ((with_reducible refine gate_callee (f := 58) rfl ?_); refine gL (some 39) Try.func58 #[.slice Ao42 t288.length co42, .string a0] (r02_In.calls k1 _ _ t288 a0 t291 _ (kC (Kd.R_reads' HO290.out).2.2) ((Kd.R_reads' HO290.out).2.1) A18.out) ?_; rintro e w' ⟨rfl, ⟨nd, rfl⟩⟩; refine ⟨_, rfl, ?_⟩) | (go_at_call 60; (with_reducible refine (r02_Attrs.calls  t292 _ A28.out).mono ?_); rintro e w43 ⟨v293, rfl, ho0, hb⟩; have HO294 := Aside0.mk (Kd.R_lower (Kd.R_new' ho0 (Kd.R_lt (kR HO290))) (below_size (kB HB))); replace HO290 := Aside0.mk (Kd.R_elder' (kR HO290) (Kd.R_base ho0) hb); replace HB := bS (kB HB) hb; obtain ⟨Ao44, co44, eo44⟩ := Kd.R_slice HO294.out; subst eo44) | (go_at_call 58; (with_reducible refine (r02_In.calls k1 _ _ t292 a0 t295 _ (kC (Kd.R_reads' HO294.out).2.2) ((Kd.R_reads' HO294.out).2.1) A29.out).mono ?_); rintro e w' ⟨rfl, ⟨nd, rfl⟩⟩))
     go_ret
     exact ⟨tE, kB HB⟩
    rw [if_pos c31] at H
    have c31b0 : decide (1 ≤ (a0.size : Int)) = true := decide_eq_true c31
    have c31b1 : decide (1 ≤ a0.size) = true := decide_eq_true (by omega)
    clear c31
    by_cases c32 : (a0.size : Int) ≤ 12
    ·rw [if_pos c32] at H
     have c32b0 : decide ((a0.size : Int) ≤ 12) = true := decide_eq_true c32
     have c32b1 : decide (a0.size ≤ 12) = true := decide_eq_true (by omega)
     clear c32
     obtain rfl := Option.some.inj H
     go_wp2_with (first | ((with_reducible refine gate_callee (f := 59) rfl ?_); refine gL (some 37) Try.func59 #[] (r02_Kinds.calls  t288 _ A17.out) ?_; rintro e w33 ⟨v289, rfl, ho0, hb⟩; refine ⟨_, rfl, ?_⟩; have HO290 := Aside0.mk (Kd.R_lower ho0 (below_size (kB HB))); replace HB := bS (kB HB) hb; obtain ⟨Ao34, co34, eo34⟩ := Kd.R_slice HO290.out; subst eo34) | ((with_reducible refine gate_callee (f := 58) rfl ?_); refine gL (some 39) Try.func58 #[.slice Ao34 t288.length co34, .string a0] (r02_In.calls k1 _ _ t288 a0 t291 _ (kC (Kd.R_reads' HO290.out).2.2) ((Kd.R_reads' HO290.out).2.1) A18.out) ?_; rintro e w' ⟨rfl, ⟨nd, rfl⟩⟩; refine ⟨_, rfl, ?_⟩) | (go_at_call 60; (with_reducible refine (r02_Attrs.calls  t292 _ A28.out).mono ?_); rintro e w35 ⟨v293, rfl, ho0, hb⟩; have HO294 := Aside0.mk (Kd.R_lower (Kd.R_new' ho0 (Kd.R_lt (kR HO290))) (below_size (kB HB))); replace HO290 := Aside0.mk (Kd.R_elder' (kR HO290) (Kd.R_base ho0) hb); replace HB := bS (kB HB) hb; obtain ⟨Ao36, co36, eo36⟩ := Kd.R_slice HO294.out; subst eo36) | (go_at_call 58; (with_reducible refine (r02_In.calls k1 _ _ t292 a0 t295 _ (kC (Kd.R_reads' HO294.out).2.2) ((Kd.R_reads' HO294.out).2.1) A29.out).mono ?_); rintro e w' ⟨rfl, ⟨nd, rfl⟩⟩))
     go_ret
     exact ⟨tE, kB HB⟩
    rw [if_neg c32] at H
    have c32b0 : decide ((a0.size : Int) ≤ 12) = false := decide_eq_false c32
    have c32b1 : decide (a0.size ≤ 12) = false := decide_eq_false (by omega)
    clear c32
    obtain rfl := Option.some.inj H
    go_wp2_with (first | ((with_reducible refine gate_callee (f := 59) rfl ?_); refine gL (some 37) Try.func59 #[] (r02_Kinds.calls  t288 _ A17.out) ?_; rintro e w37 ⟨v289, rfl, ho0, hb⟩; refine ⟨_, rfl, ?_⟩; have HO290 := Aside0.mk (Kd.R_lower ho0 (below_size (kB HB))); replace HB := bS (kB HB) hb; obtain ⟨Ao38, co38, eo38⟩ := Kd.R_slice HO290.out; subst eo38) | ((with_reducible refine gate_callee (f := 58) rfl ?_); refine gL (some 39) Try.func58 #[.slice Ao38 t288.length co38, .string a0] (r02_In.calls k1 _ _ t288 a0 t291 _ (kC (Kd.R_reads' HO290.out).2.2) ((Kd.R_reads' HO290.out).2.1) A18.out) ?_; rintro e w' ⟨rfl, ⟨nd, rfl⟩⟩; refine ⟨_, rfl, ?_⟩) | (go_at_call 60; (with_reducible refine (r02_Attrs.calls  t292 _ A28.out).mono ?_); rintro e w39 ⟨v293, rfl, ho0, hb⟩; have HO294 := Aside0.mk (Kd.R_lower (Kd.R_new' ho0 (Kd.R_lt (kR HO290))) (below_size (kB HB))); replace HO290 := Aside0.mk (Kd.R_elder' (kR HO290) (Kd.R_base ho0) hb); replace HB := bS (kB HB) hb; obtain ⟨Ao40, co40, eo40⟩ := Kd.R_slice HO294.out; subst eo40) | (go_at_call 58; (with_reducible refine (r02_In.calls k1 _ _ t292 a0 t295 _ (kC (Kd.R_reads' HO294.out).2.2) ((Kd.R_reads' HO294.out).2.1) A29.out).mono ?_); rintro e w' ⟨rfl, ⟨nd, rfl⟩⟩))
    go_ret
    exact ⟨tE, kB HB⟩
   rw [if_neg c30] at H
   have c30b0 : decide (0 ≤ t295) = false := decide_eq_false c30
   clear c30
   obtain ⟨t296, A45, H⟩ := bnd H
   obtain ⟨t299, A46, H⟩ := bnd H
   by_cases c47 : t299 ≥ 0
   ·rw [if_pos c47] at H
    have c47b0 : decide (0 ≤ t299) = true := decide_eq_true c47
    clear c47
    by_cases c48 : (a0.size : Int) ≥ 1
    rotate_left
    ·rw [if_neg c48] at H
     have c48b0 : decide (1 ≤ (a0.size : Int)) = false := decide_eq_false c48
     have c48b1 : decide (1 ≤ a0.size) = false := decide_eq_false (by omega)
     clear c48
     obtain rfl := Option.some.inj H
     go_wp2_with (first | ((with_reducible refine gate_callee (f := 59) rfl ?_); refine gL (some 37) Try.func59 #[] (r02_Kinds.calls  t288 _ A17.out) ?_; rintro e w62 ⟨v289, rfl, ho0, hb⟩; refine ⟨_, rfl, ?_⟩; have HO290 := Aside0.mk (Kd.R_lower ho0 (below_size (kB HB))); replace HB := bS (kB HB) hb; obtain ⟨Ao63, co63, eo63⟩ := Kd.R_slice HO290.out; subst eo63) | ((with_reducible refine gate_callee (f := 58) rfl ?_); refine gL (some 39) Try.func58 #[.slice Ao63 t288.length co63, .string a0] (r02_In.calls k1 _ _ t288 a0 t291 _ (kC (Kd.R_reads' HO290.out).2.2) ((Kd.R_reads' HO290.out).2.1) A18.out) ?_; rintro e w' ⟨rfl, ⟨nd, rfl⟩⟩; refine ⟨_, rfl, ?_⟩) | (go_at_call 60; (with_reducible refine (r02_Attrs.calls  t292 _ A28.out).mono ?_); rintro e w64 ⟨v293, rfl, ho0, hb⟩; have HO294 := Aside0.mk (Kd.R_lower (Kd.R_new' ho0 (Kd.R_lt (kR HO290))) (below_size (kB HB))); replace HO290 := Aside0.mk (Kd.R_elder' (kR HO290) (Kd.R_base ho0) hb); replace HB := bS (kB HB) hb; obtain ⟨Ao65, co65, eo65⟩ := Kd.R_slice HO294.out; subst eo65) | (go_at_call 58; (with_reducible refine (r02_In.calls k1 _ _ t292 a0 t295 _ (kC (Kd.R_reads' HO294.out).2.2) ((Kd.R_reads' HO294.out).2.1) A29.out).mono ?_); rintro e w' ⟨rfl, ⟨nd, rfl⟩⟩) | (go_at_call 61; (with_reducible refine (r02_Articles.calls  t296 _ A45.out).mono ?_); rintro e w66 ⟨v297, rfl, ho0, hb⟩; have HO298 := Aside0.mk (Kd.R_lower (Kd.R_new' (Kd.R_new' ho0 (Kd.R_lt (kR HO290))) (Kd.R_lt (kR HO294))) (below_size (kB HB))); replace HO290 := Aside0.mk (Kd.R_elder' (kR HO290) (Kd.R_base ho0) hb); replace HO294 := Aside0.mk (Kd.R_elder' (kR HO294) (Kd.R_base ho0) hb); replace HB := bS (kB HB) hb; obtain ⟨Ao67, co67, eo67⟩ := Kd.R_slice HO298.out; subst eo67) | (go_at_call 58; (with_reducible refine (r02_In.calls k1 _ _ t296 a0 t299 _ (kC (Kd.R_reads' HO298.out).2.2) ((Kd.R_reads' HO298.out).2.1) A46.out).mono ?_); rintro e w' ⟨rfl, ⟨nd, rfl⟩⟩))
     go_ret
     exact ⟨tE, kB HB⟩
    rw [if_pos c48] at H
    have c48b0 : decide (1 ≤ (a0.size : Int)) = true := decide_eq_true c48
    have c48b1 : decide (1 ≤ a0.size) = true := decide_eq_true (by omega)
    clear c48
    by_cases c49 : (a0.size : Int) ≤ 12
    ·rw [if_pos c49] at H
     have c49b0 : decide ((a0.size : Int) ≤ 12) = true := decide_eq_true c49
     have c49b1 : decide (a0.size ≤ 12) = true := decide_eq_true (by omega)
     clear c49
     obtain rfl := Option.some.inj H
     go_wp2_with (first | ((with_reducible refine gate_callee (f := 59) rfl ?_); refine gL (some 37) Try.func59 #[] (r02_Kinds.calls  t288 _ A17.out) ?_; rintro e w50 ⟨v289, rfl, ho0, hb⟩; refine ⟨_, rfl, ?_⟩; have HO290 := Aside0.mk (Kd.R_lower ho0 (below_size (kB HB))); replace HB := bS (kB HB) hb; obtain ⟨Ao51, co51, eo51⟩ := Kd.R_slice HO290.out; subst eo51) | ((with_reducible refine gate_callee (f := 58) rfl ?_); refine gL (some 39) Try.func58 #[.slice Ao51 t288.length co51, .string a0] (r02_In.calls k1 _ _ t288 a0 t291 _ (kC (Kd.R_reads' HO290.out).2.2) ((Kd.R_reads' HO290.out).2.1) A18.out) ?_; rintro e w' ⟨rfl, ⟨nd, rfl⟩⟩; refine ⟨_, rfl, ?_⟩) | (go_at_call 60; (with_reducible refine (r02_Attrs.calls  t292 _ A28.out).mono ?_); rintro e w52 ⟨v293, rfl, ho0, hb⟩; have HO294 := Aside0.mk (Kd.R_lower (Kd.R_new' ho0 (Kd.R_lt (kR HO290))) (below_size (kB HB))); replace HO290 := Aside0.mk (Kd.R_elder' (kR HO290) (Kd.R_base ho0) hb); replace HB := bS (kB HB) hb; obtain ⟨Ao53, co53, eo53⟩ := Kd.R_slice HO294.out; subst eo53) | (go_at_call 58; (with_reducible refine (r02_In.calls k1 _ _ t292 a0 t295 _ (kC (Kd.R_reads' HO294.out).2.2) ((Kd.R_reads' HO294.out).2.1) A29.out).mono ?_); rintro e w' ⟨rfl, ⟨nd, rfl⟩⟩) | (go_at_call 61; (with_reducible refine (r02_Articles.calls  t296 _ A45.out).mono ?_); rintro e w54 ⟨v297, rfl, ho0, hb⟩; have HO298 := Aside0.mk (Kd.R_lower (Kd.R_new' (Kd.R_new' ho0 (Kd.R_lt (kR HO290))) (Kd.R_lt (kR HO294))) (below_size (kB HB))); replace HO290 := Aside0.mk (Kd.R_elder' (kR HO290) (Kd.R_base ho0) hb); replace HO294 := Aside0.mk (Kd.R_elder' (kR HO294) (Kd.R_base ho0) hb); replace HB := bS (kB HB) hb; obtain ⟨Ao55, co55, eo55⟩ := Kd.R_slice HO298.out; subst eo55) | (go_at_call 58; (with_reducible refine (r02_In.calls k1 _ _ t296 a0 t299 _ (kC (Kd.R_reads' HO298.out).2.2) ((Kd.R_reads' HO298.out).2.1) A46.out).mono ?_); rintro e w' ⟨rfl, ⟨nd, rfl⟩⟩))
     go_ret
     exact ⟨tE, kB HB⟩
    rw [if_neg c49] at H
    have c49b0 : decide ((a0.size : Int) ≤ 12) = false := decide_eq_false c49
    have c49b1 : decide (a0.size ≤ 12) = false := decide_eq_false (by omega)
    clear c49
    obtain rfl := Option.some.inj H
    go_wp2_with (first | ((with_reducible refine gate_callee (f := 59) rfl ?_); refine gL (some 37) Try.func59 #[] (r02_Kinds.calls  t288 _ A17.out) ?_; rintro e w56 ⟨v289, rfl, ho0, hb⟩; refine ⟨_, rfl, ?_⟩; have HO290 := Aside0.mk (Kd.R_lower ho0 (below_size (kB HB))); replace HB := bS (kB HB) hb; obtain ⟨Ao57, co57, eo57⟩ := Kd.R_slice HO290.out; subst eo57) | ((with_reducible refine gate_callee (f := 58) rfl ?_); refine gL (some 39) Try.func58 #[.slice Ao57 t288.length co57, .string a0] (r02_In.calls k1 _ _ t288 a0 t291 _ (kC (Kd.R_reads' HO290.out).2.2) ((Kd.R_reads' HO290.out).2.1) A18.out) ?_; rintro e w' ⟨rfl, ⟨nd, rfl⟩⟩; refine ⟨_, rfl, ?_⟩) | (go_at_call 60; (with_reducible refine (r02_Attrs.calls  t292 _ A28.out).mono ?_); rintro e w58 ⟨v293, rfl, ho0, hb⟩; have HO294 := Aside0.mk (Kd.R_lower (Kd.R_new' ho0 (Kd.R_lt (kR HO290))) (below_size (kB HB))); replace HO290 := Aside0.mk (Kd.R_elder' (kR HO290) (Kd.R_base ho0) hb); replace HB := bS (kB HB) hb; obtain ⟨Ao59, co59, eo59⟩ := Kd.R_slice HO294.out; subst eo59) | (go_at_call 58; (with_reducible refine (r02_In.calls k1 _ _ t292 a0 t295 _ (kC (Kd.R_reads' HO294.out).2.2) ((Kd.R_reads' HO294.out).2.1) A29.out).mono ?_); rintro e w' ⟨rfl, ⟨nd, rfl⟩⟩) | (go_at_call 61; (with_reducible refine (r02_Articles.calls  t296 _ A45.out).mono ?_); rintro e w60 ⟨v297, rfl, ho0, hb⟩; have HO298 := Aside0.mk (Kd.R_lower (Kd.R_new' (Kd.R_new' ho0 (Kd.R_lt (kR HO290))) (Kd.R_lt (kR HO294))) (below_size (kB HB))); replace HO290 := Aside0.mk (Kd.R_elder' (kR HO290) (Kd.R_base ho0) hb); replace HO294 := Aside0.mk (Kd.R_elder' (kR HO294) (Kd.R_base ho0) hb); replace HB := bS (kB HB) hb; obtain ⟨Ao61, co61, eo61⟩ := Kd.R_slice HO298.out; subst eo61) | (go_at_call 58; (with_reducible refine (r02_In.calls k1 _ _ t296 a0 t299 _ (kC (Kd.R_reads' HO298.out).2.2) ((Kd.R_reads' HO298.out).2.1) A46.out).mono ?_); rintro e w' ⟨rfl, ⟨nd, rfl⟩⟩))
    go_ret
    exact ⟨tE, kB HB⟩
   rw [if_neg c47] at H
   have c47b0 : decide (0 ≤ t299) = false := decide_eq_false c47
   clear c47
   obtain ⟨t300, A68, H⟩ := bnd H
   obtain ⟨t303, A69, H⟩ := bnd H
   by_cases c70 : (a0.size : Int) ≥ 1
   rotate_left
   ·rw [if_neg c70] at H
    have c70b0 : decide (1 ≤ (a0.size : Int)) = false := decide_eq_false c70
    have c70b1 : decide (1 ≤ a0.size) = false := decide_eq_false (by omega)
    clear c70
    obtain rfl := Option.some.inj H
    go_wp2_with (first | ((with_reducible refine gate_callee (f := 59) rfl ?_); refine gL (some 37) Try.func59 #[] (r02_Kinds.calls  t288 _ A17.out) ?_; rintro e w88 ⟨v289, rfl, ho0, hb⟩; refine ⟨_, rfl, ?_⟩; have HO290 := Aside0.mk (Kd.R_lower ho0 (below_size (kB HB))); replace HB := bS (kB HB) hb; obtain ⟨Ao89, co89, eo89⟩ := Kd.R_slice HO290.out; subst eo89) | ((with_reducible refine gate_callee (f := 58) rfl ?_); refine gL (some 39) Try.func58 #[.slice Ao89 t288.length co89, .string a0] (r02_In.calls k1 _ _ t288 a0 t291 _ (kC (Kd.R_reads' HO290.out).2.2) ((Kd.R_reads' HO290.out).2.1) A18.out) ?_; rintro e w' ⟨rfl, ⟨nd, rfl⟩⟩; refine ⟨_, rfl, ?_⟩) | (go_at_call 60; (with_reducible refine (r02_Attrs.calls  t292 _ A28.out).mono ?_); rintro e w90 ⟨v293, rfl, ho0, hb⟩; have HO294 := Aside0.mk (Kd.R_lower (Kd.R_new' ho0 (Kd.R_lt (kR HO290))) (below_size (kB HB))); replace HO290 := Aside0.mk (Kd.R_elder' (kR HO290) (Kd.R_base ho0) hb); replace HB := bS (kB HB) hb; obtain ⟨Ao91, co91, eo91⟩ := Kd.R_slice HO294.out; subst eo91) | (go_at_call 58; (with_reducible refine (r02_In.calls k1 _ _ t292 a0 t295 _ (kC (Kd.R_reads' HO294.out).2.2) ((Kd.R_reads' HO294.out).2.1) A29.out).mono ?_); rintro e w' ⟨rfl, ⟨nd, rfl⟩⟩) | (go_at_call 61; (with_reducible refine (r02_Articles.calls  t296 _ A45.out).mono ?_); rintro e w92 ⟨v297, rfl, ho0, hb⟩; have HO298 := Aside0.mk (Kd.R_lower (Kd.R_new' (Kd.R_new' ho0 (Kd.R_lt (kR HO290))) (Kd.R_lt (kR HO294))) (below_size (kB HB))); replace HO290 := Aside0.mk (Kd.R_elder' (kR HO290) (Kd.R_base ho0) hb); replace HO294 := Aside0.mk (Kd.R_elder' (kR HO294) (Kd.R_base ho0) hb); replace HB := bS (kB HB) hb; obtain ⟨Ao93, co93, eo93⟩ := Kd.R_slice HO298.out; subst eo93) | (go_at_call 58; (with_reducible refine (r02_In.calls k1 _ _ t296 a0 t299 _ (kC (Kd.R_reads' HO298.out).2.2) ((Kd.R_reads' HO298.out).2.1) A46.out).mono ?_); rintro e w' ⟨rfl, ⟨nd, rfl⟩⟩) | (go_at_call 62; (with_reducible refine (r02_Words.calls  t300 _ A68.out).mono ?_); rintro e w94 ⟨v301, rfl, ho0, hb⟩; have HO302 := Aside0.mk (Kd.R_lower (Kd.R_new' (Kd.R_new' (Kd.R_new' ho0 (Kd.R_lt (kR HO290))) (Kd.R_lt (kR HO294))) (Kd.R_lt (kR HO298))) (below_size (kB HB))); replace HO290 := Aside0.mk (Kd.R_elder' (kR HO290) (Kd.R_base ho0) hb); replace HO294 := Aside0.mk (Kd.R_elder' (kR HO294) (Kd.R_base ho0) hb); replace HO298 := Aside0.mk (Kd.R_elder' (kR HO298) (Kd.R_base ho0) hb); replace HB := bS (kB HB) hb; obtain ⟨Ao95, co95, eo95⟩ := Kd.R_slice HO302.out; subst eo95) | (go_at_call 58; (with_reducible refine (r02_In.calls k1 _ _ t300 a0 t303 _ (kC (Kd.R_reads' HO302.out).2.2) ((Kd.R_reads' HO302.out).2.1) A69.out).mono ?_); rintro e w' ⟨rfl, ⟨nd, rfl⟩⟩))
    go_ret
    exact ⟨tE, kB HB⟩
   rw [if_pos c70] at H
   have c70b0 : decide (1 ≤ (a0.size : Int)) = true := decide_eq_true c70
   have c70b1 : decide (1 ≤ a0.size) = true := decide_eq_true (by omega)
   clear c70
   by_cases c71 : (a0.size : Int) ≤ 12
   ·rw [if_pos c71] at H
    have c71b0 : decide ((a0.size : Int) ≤ 12) = true := decide_eq_true c71
    have c71b1 : decide (a0.size ≤ 12) = true := decide_eq_true (by omega)
    clear c71
    obtain rfl := Option.some.inj H
    go_wp2_with (first | ((with_reducible refine gate_callee (f := 59) rfl ?_); refine gL (some 37) Try.func59 #[] (r02_Kinds.calls  t288 _ A17.out) ?_; rintro e w72 ⟨v289, rfl, ho0, hb⟩; refine ⟨_, rfl, ?_⟩; have HO290 := Aside0.mk (Kd.R_lower ho0 (below_size (kB HB))); replace HB := bS (kB HB) hb; obtain ⟨Ao73, co73, eo73⟩ := Kd.R_slice HO290.out; subst eo73) | ((with_reducible refine gate_callee (f := 58) rfl ?_); refine gL (some 39) Try.func58 #[.slice Ao73 t288.length co73, .string a0] (r02_In.calls k1 _ _ t288 a0 t291 _ (kC (Kd.R_reads' HO290.out).2.2) ((Kd.R_reads' HO290.out).2.1) A18.out) ?_; rintro e w' ⟨rfl, ⟨nd, rfl⟩⟩; refine ⟨_, rfl, ?_⟩) | (go_at_call 60; (with_reducible refine (r02_Attrs.calls  t292 _ A28.out).mono ?_); rintro e w74 ⟨v293, rfl, ho0, hb⟩; have HO294 := Aside0.mk (Kd.R_lower (Kd.R_new' ho0 (Kd.R_lt (kR HO290))) (below_size (kB HB))); replace HO290 := Aside0.mk (Kd.R_elder' (kR HO290) (Kd.R_base ho0) hb); replace HB := bS (kB HB) hb; obtain ⟨Ao75, co75, eo75⟩ := Kd.R_slice HO294.out; subst eo75) | (go_at_call 58; (with_reducible refine (r02_In.calls k1 _ _ t292 a0 t295 _ (kC (Kd.R_reads' HO294.out).2.2) ((Kd.R_reads' HO294.out).2.1) A29.out).mono ?_); rintro e w' ⟨rfl, ⟨nd, rfl⟩⟩) | (go_at_call 61; (with_reducible refine (r02_Articles.calls  t296 _ A45.out).mono ?_); rintro e w76 ⟨v297, rfl, ho0, hb⟩; have HO298 := Aside0.mk (Kd.R_lower (Kd.R_new' (Kd.R_new' ho0 (Kd.R_lt (kR HO290))) (Kd.R_lt (kR HO294))) (below_size (kB HB))); replace HO290 := Aside0.mk (Kd.R_elder' (kR HO290) (Kd.R_base ho0) hb); replace HO294 := Aside0.mk (Kd.R_elder' (kR HO294) (Kd.R_base ho0) hb); replace HB := bS (kB HB) hb; obtain ⟨Ao77, co77, eo77⟩ := Kd.R_slice HO298.out; subst eo77) | (go_at_call 58; (with_reducible refine (r02_In.calls k1 _ _ t296 a0 t299 _ (kC (Kd.R_reads' HO298.out).2.2) ((Kd.R_reads' HO298.out).2.1) A46.out).mono ?_); rintro e w' ⟨rfl, ⟨nd, rfl⟩⟩) | (go_at_call 62; (with_reducible refine (r02_Words.calls  t300 _ A68.out).mono ?_); rintro e w78 ⟨v301, rfl, ho0, hb⟩; have HO302 := Aside0.mk (Kd.R_lower (Kd.R_new' (Kd.R_new' (Kd.R_new' ho0 (Kd.R_lt (kR HO290))) (Kd.R_lt (kR HO294))) (Kd.R_lt (kR HO298))) (below_size (kB HB))); replace HO290 := Aside0.mk (Kd.R_elder' (kR HO290) (Kd.R_base ho0) hb); replace HO294 := Aside0.mk (Kd.R_elder' (kR HO294) (Kd.R_base ho0) hb); replace HO298 := Aside0.mk (Kd.R_elder' (kR HO298) (Kd.R_base ho0) hb); replace HB := bS (kB HB) hb; obtain ⟨Ao79, co79, eo79⟩ := Kd.R_slice HO302.out; subst eo79) | (go_at_call 58; (with_reducible refine (r02_In.calls k1 _ _ t300 a0 t303 _ (kC (Kd.R_reads' HO302.out).2.2) ((Kd.R_reads' HO302.out).2.1) A69.out).mono ?_); rintro e w' ⟨rfl, ⟨nd, rfl⟩⟩))
    go_ret
    exact ⟨tE, kB HB⟩
   rw [if_neg c71] at H
   have c71b0 : decide ((a0.size : Int) ≤ 12) = false := decide_eq_false c71
   have c71b1 : decide (a0.size ≤ 12) = false := decide_eq_false (by omega)
   clear c71
   obtain rfl := Option.some.inj H
   go_wp2_with (first | ((with_reducible refine gate_callee (f := 59) rfl ?_); refine gL (some 37) Try.func59 #[] (r02_Kinds.calls  t288 _ A17.out) ?_; rintro e w80 ⟨v289, rfl, ho0, hb⟩; refine ⟨_, rfl, ?_⟩; have HO290 := Aside0.mk (Kd.R_lower ho0 (below_size (kB HB))); replace HB := bS (kB HB) hb; obtain ⟨Ao81, co81, eo81⟩ := Kd.R_slice HO290.out; subst eo81) | ((with_reducible refine gate_callee (f := 58) rfl ?_); refine gL (some 39) Try.func58 #[.slice Ao81 t288.length co81, .string a0] (r02_In.calls k1 _ _ t288 a0 t291 _ (kC (Kd.R_reads' HO290.out).2.2) ((Kd.R_reads' HO290.out).2.1) A18.out) ?_; rintro e w' ⟨rfl, ⟨nd, rfl⟩⟩; refine ⟨_, rfl, ?_⟩) | (go_at_call 60; (with_reducible refine (r02_Attrs.calls  t292 _ A28.out).mono ?_); rintro e w82 ⟨v293, rfl, ho0, hb⟩; have HO294 := Aside0.mk (Kd.R_lower (Kd.R_new' ho0 (Kd.R_lt (kR HO290))) (below_size (kB HB))); replace HO290 := Aside0.mk (Kd.R_elder' (kR HO290) (Kd.R_base ho0) hb); replace HB := bS (kB HB) hb; obtain ⟨Ao83, co83, eo83⟩ := Kd.R_slice HO294.out; subst eo83) | (go_at_call 58; (with_reducible refine (r02_In.calls k1 _ _ t292 a0 t295 _ (kC (Kd.R_reads' HO294.out).2.2) ((Kd.R_reads' HO294.out).2.1) A29.out).mono ?_); rintro e w' ⟨rfl, ⟨nd, rfl⟩⟩) | (go_at_call 61; (with_reducible refine (r02_Articles.calls  t296 _ A45.out).mono ?_); rintro e w84 ⟨v297, rfl, ho0, hb⟩; have HO298 := Aside0.mk (Kd.R_lower (Kd.R_new' (Kd.R_new' ho0 (Kd.R_lt (kR HO290))) (Kd.R_lt (kR HO294))) (below_size (kB HB))); replace HO290 := Aside0.mk (Kd.R_elder' (kR HO290) (Kd.R_base ho0) hb); replace HO294 := Aside0.mk (Kd.R_elder' (kR HO294) (Kd.R_base ho0) hb); replace HB := bS (kB HB) hb; obtain ⟨Ao85, co85, eo85⟩ := Kd.R_slice HO298.out; subst eo85) | (go_at_call 58; (with_reducible refine (r02_In.calls k1 _ _ t296 a0 t299 _ (kC (Kd.R_reads' HO298.out).2.2) ((Kd.R_reads' HO298.out).2.1) A46.out).mono ?_); rintro e w' ⟨rfl, ⟨nd, rfl⟩⟩) | (go_at_call 62; (with_reducible refine (r02_Words.calls  t300 _ A68.out).mono ?_); rintro e w86 ⟨v301, rfl, ho0, hb⟩; have HO302 := Aside0.mk (Kd.R_lower (Kd.R_new' (Kd.R_new' (Kd.R_new' ho0 (Kd.R_lt (kR HO290))) (Kd.R_lt (kR HO294))) (Kd.R_lt (kR HO298))) (below_size (kB HB))); replace HO290 := Aside0.mk (Kd.R_elder' (kR HO290) (Kd.R_base ho0) hb); replace HO294 := Aside0.mk (Kd.R_elder' (kR HO294) (Kd.R_base ho0) hb); replace HO298 := Aside0.mk (Kd.R_elder' (kR HO298) (Kd.R_base ho0) hb); replace HB := bS (kB HB) hb; obtain ⟨Ao87, co87, eo87⟩ := Kd.R_slice HO302.out; subst eo87) | (go_at_call 58; (with_reducible refine (r02_In.calls k1 _ _ t300 a0 t303 _ (kC (Kd.R_reads' HO302.out).2.2) ((Kd.R_reads' HO302.out).2.1) A69.out).mono ?_); rintro e w' ⟨rfl, ⟨nd, rfl⟩⟩))
   go_ret
   exact ⟨tE, kB HB⟩
end Go.Proofs.Ytpdmnineampimaa.Q
