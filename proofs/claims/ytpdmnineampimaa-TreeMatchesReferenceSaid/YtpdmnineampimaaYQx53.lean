import Derived.Test.YtpdmnineampimaaYe
set_option linter.unusedVariables false
set_option linter.unusedSimpArgs false
namespace Go.Proofs.Ytpdmnineampimaa.Q
open Go.RowKit Go.Proofs.YtpdmnineampimaaW.PrintWords Go.Proofs.YtpdmnineampimaaW.PrintLast Go.Proofs.YtpdmnineampimaaW.PrintMore
attribute [local go_sem] max2_int min2_int max_two min_two max_three min_three max_four min_four
def w08_currents.l0 : Nat → List Int → List Int → Int → Int → Option (List Int)
  | 0, _, _, _, _ => none
  | k + 1, x1, x5, x12, x13 => if x13 < x12 then (if x13 < (x1.length : Int) then (if 0 ≤ x13 then (if x13 < (x5.length : Int) then (w08_currents.l0 k x1 (x5.set (x13 : Int).toNat (Int.tmod (wrap64 (rd x1 x13)) 81)) x12 (wrap64 (x13 + 1))) else (none)) else (none)) else (w08_currents.l0 k x1 x5 x12 (wrap64 (x13 + 1)))) else (some x5)
def w08_currents.f (k : Nat) (l0_0 : List (S48)) (l0_1 : List (S62)) (l0_2 : List (S84)) (l0_3 : List (S42)) (l0_4 : List (S87)) (l1 : List Int) : Option (List Int) := if 0 ≤ (l0_3.length : Int) then (if ((l0_3.length : Int) : Int).toNat ≤ 35184372088832 then ((some (List.replicate ((l0_3.length : Int) : Int).toNat 0 : List Int)).bind fun y476 => (w08_currents.l0 k l1 y476 (y476.length : Int) 0)) else (none)) else (none)
theorem w08_currents.mono_l : ∀ k, (∀ y0 y1 y2 y3, LeO (w08_currents.l0 k y0 y1 y2 y3) (w08_currents.l0 (k + 1) y0 y1 y2 y3))
  | 0 => fun _ _ _ _ r h => by simp [w08_currents.l0] at h
  | k + 1 => by
    have ih0 := w08_currents.mono_l k
    · intro y0 y1 y2 y3
      unfold w08_currents.l0
      repeat' first | (with_reducible apply ih0) | (with_reducible exact LeO.refl _) | (with_reducible exact LeO.none _) | (with_reducible refine LeO.ite ?_ ?_) | (with_reducible refine LeO.bind ?_ (fun _ => ?_))
theorem w08_currents.mono : ∀ a0 a1 a2 a3 a4 a5 k, LeO (w08_currents.f k a0 a1 a2 a3 a4 a5) (w08_currents.f (k + 1) a0 a1 a2 a3 a4 a5) := by
  intro a0 a1 a2 a3 a4 a5 k
  have ih0 := w08_currents.mono_l k
  unfold w08_currents.f
  repeat' first | (with_reducible apply ih0) | (with_reducible exact LeO.refl _) | (with_reducible exact LeO.none _) | (with_reducible refine LeO.ite ?_ ?_) | (with_reducible refine LeO.bind ?_ (fun _ => ?_))
set_option maxHeartbeats 8000000 in
set_option maxRecDepth 100000 in
theorem w08_currents.calls (k : Nat) (A0_0 : Option Addr) (c0_0 : Nat) (l0_0 : List (S48)) (A0_1 : Option Addr) (c0_1 : Nat) (l0_1 : List (S62)) (A0_2 : Option Addr) (c0_2 : Nat) (l0_2 : List (S84)) (A0_3 : Option Addr) (c0_3 : Nat) (l0_3 : List (S42)) (A0_4 : Option Addr) (c0_4 : Nat) (l0_4 : List (S87)) (A1 : Option Addr) (c1 : Nat) (l1 : List Int) (r : List Int) (w : World) (hr0_0 : Kd.C k48 w A0_0 l0_0.length l0_0) (hc0_0 : l0_0.length ≤ c0_0) (hr0_1 : Kd.C k62 w A0_1 l0_1.length l0_1) (hc0_1 : l0_1.length ≤ c0_1) (hr0_2 : Kd.C k84 w A0_2 l0_2.length l0_2) (hc0_2 : l0_2.length ≤ c0_2) (hr0_3 : Kd.C k42 w A0_3 l0_3.length l0_3) (hc0_3 : l0_3.length ≤ c0_3) (hr0_4 : Kd.C k87 w A0_4 l0_4.length l0_4) (hc0_4 : l0_4.length ≤ c0_4) (hr1 : Kd.C (Kd.int .u8) w A1 l1.length l1) (hc1 : l1.length ≤ c1) (h : w08_currents.f k l0_0 l0_1 l0_2 l0_3 l0_4 l1 = some r) :
    Calls Try.prog 22 #[.agg #[.slice A0_0 l0_0.length c0_0, .slice A0_1 l0_1.length c0_1, .slice A0_2 l0_2.length c0_2, .slice A0_3 l0_3.length c0_3, .slice A0_4 l0_4.length c0_4], .slice A1 l1.length c1] w fun e w' => ∃ v0_ : Value, e = .returned (v0_) ∧ Kd.R (Kd.int .i64) 3 w' w.heap.size (fun _ => True) v0_ r ∧ Below w.heap.size w w' := by
 have hu28 := Try.underlying28
 have HR0_0 := Aside0.mk hr0_0
 have HC0_0 := Aside0.mk hc0_0
 clear hr0_0 hc0_0
 have HR0_1 := Aside0.mk hr0_1
 have HC0_1 := Aside0.mk hc0_1
 clear hr0_1 hc0_1
 have HR0_2 := Aside0.mk hr0_2
 have HC0_2 := Aside0.mk hc0_2
 clear hr0_2 hc0_2
 have HR0_3 := Aside0.mk hr0_3
 have HC0_3 := Aside0.mk hc0_3
 clear hr0_3 hc0_3
 have HR0_4 := Aside0.mk hr0_4
 have HC0_4 := Aside0.mk hc0_4
 clear hr0_4 hc0_4
 have HR1 := Aside0.mk hr1
 have HC1 := Aside0.mk hc1
 clear hr1 hc1
 have HB := Aside0.mk (Below.refl w.heap.size w)
 (try unfold w08_currents.f at h)
 have H := h
 clear h
 by_cases c3 : 0 ≤ (l0_3.length : Int)
 rotate_left
 ·rw [if_neg c3] at H
  exact absurd H (by simp)
 rw [if_pos c3] at H
 have c3b0 := eq_true c3
 have c3b1 : decide (0 ≤ (l0_3.length : Int)) = true := decide_eq_true c3
 clear c3
 by_cases c4 : ((l0_3.length : Int) : Int).toNat ≤ 35184372088832
 rotate_left
 ·rw [if_neg c4] at H
  exact absurd H (by simp)
 rw [if_pos c4] at H
 have c4b0 := eq_true c4
 have c4b1 : decide (((l0_3.length : Int) : Int).toNat ≤ 35184372088832) = true := decide_eq_true c4
 clear c4
 obtain ⟨y476, hy476⟩ : ∃ y_ : List Int, y_ = (List.replicate ((l0_3.length : Int) : Int).toNat 0) := ⟨_, rfl⟩
 replace H : (w08_currents.l0 k l1 y476 (y476.length : Int) 0) = some r := by first | (rw [hy476]; with_reducible exact H) | (have H2_ := (Option.bind_some _ _).symm.trans H; rw [hy476]; with_reducible exact H2_) | (have H2_ := (Option.bind_some _ _).symm.trans H; with_reducible exact H2_) | with_reducible exact H | (rw [hy476]; exact H) | exact H
 have Ny476 := Aside0.mk hy476
 clear hy476
 have H' := Aside0.mk H
 clear H
 go_enter Try.func22, Try.ntmps22
 go_wp2_with (first | ((with_reducible refine gate_dst (N := 2) rfl ?_); refine bE 2 28 #[.slice A0_0 l0_0.length c0_0, .slice A0_1 l0_1.length c0_1, .slice A0_2 l0_2.length c0_2, .slice A0_3 l0_3.length c0_3, .slice A0_4 l0_4.length c0_4] ?_; intro gb475 hg w5 hbox hb; have BK475 := Aside0.mk hbox; have GW475 := gE hg (kB HB); have GE475 := gE hg (kB HB); replace HB := bS (kB HB) hb; clear hb hbox hg; obtain ⟨⟨_,_,_,_,_⟩,_,_,_,_,_⟩ := bx5 BK475) | ((with_reducible refine gate_dst (N := 10) rfl ?_); refine Kd.R_make (Kd.int .i64) _ 3 rfl (N := 10) rfl 29 _ _ rfl (l0_3.length : Int) rfl rfl Try.underlying29 (.int .i64 0) 8 info3 rfl (by decide) (by omega) 0 (ok := fun _ => True) (okp := fun _ => True) rfl (fun _ hk => hk) trivial (tD) (Nat.le_trans (Nat.mul_le_mul_right _ (tD : (l0_3.length : Int).toNat ≤ 35184372088832)) (by omega)) (Below.refl _ _) (Nat.le_refl _) ?_; intro v477 w7 ho8 hb hg_ hnew_; clear hg_ hnew_; (first | rw [← Ny476.out] at ho8 | (simp only [Int.reduceToNat] at ho8; rw [← Ny476.out] at ho8)); have HO478 := Aside0.mk (Kd.R_lower ho8 (below_size (kB1 HB GE475))); replace BK475 := bK BK475 hb; replace HB := bS (kB1 HB GE475) hb; clear hb ho8; obtain ⟨Ao9, co9, eo9⟩ := Kd.R_slice HO478.out; subst eo9))
 go_loopg [13] k (fun kq v13 w' => ∃ (x5_1 : List Int) (x13_1 : Int), v13 = .int .i64 x13_1 ∧ Aside0 (w08_currents.l0 kq l1 x5_1 (y476.length : Int) x13_1 = some r) ∧ Aside0 (kq ≤ k) ∧ Aside0 (Kd.R (Kd.int .i64) 3 w' w.heap.size (fun _ => True) (.slice Ao9 y476.length co9) x5_1) ∧ Aside0 (w'.heap[gb475]? = some (.cells #[(.slice A0_0 l0_0.length c0_0), (.slice A0_1 l0_1.length c0_1), (.slice A0_2 l0_2.length c0_2), (.slice A0_3 l0_3.length c0_3), (.slice A0_4 l0_4.length c0_4)] 28 (0, 0))) ∧ Aside0 (Below w.heap.size w w'))
 case atStart => exact ⟨(y476), (0), tQ, H', ⟨Nat.le_refl _⟩, ⟨kR HO478⟩, ⟨kK BK475⟩, ⟨kB1 HB GE475⟩⟩
 case round =>
  clear H'
  obtain ⟨x5_1, x13_1, rfl, HA, HK1, HO_5, BK475, HB⟩ := hrel
  have hl5_1 := (Kd.R_reads' HO_5.out).1
  rw [hl5_1] at HO_5
  (try simp only [hl5_1])
  (try simp only [hl5_1] at BK475)
  cases gk with
  | zero => exact absurd HA.out (by simp [w08_currents.l0])
  | succ k1 =>
   have H := HA.out
   clear HA
   simp only [w08_currents.l0] at H
   by_cases c10 : x13_1 < (y476.length : Int)
   rotate_left
   ·rw [if_neg c10] at H
    have c10b0 : decide (x13_1 < (y476.length : Int)) = false := decide_eq_false c10
    (try (have c10b0_ := c10b0; simp only [hl5_1] at c10b0_))
    clear c10
    obtain rfl := Option.some.inj H
    go_wp2
    go_ret
    exact ⟨_, tE, by (with_reducible repeat (first | apply Kd.R_alloc | apply Kd.R_drewN | apply Kd.R_drew)); exact HO_5.out, kB1 HB GE475⟩
   rw [if_pos c10] at H
   have c10b0 : decide (x13_1 < (y476.length : Int)) = true := decide_eq_true c10
   (try (have c10b0_ := c10b0; simp only [hl5_1] at c10b0_))
   clear c10
   by_cases c11 : x13_1 < (l1.length : Int)
   rotate_left
   ·rw [if_neg c11] at H
    have c11b0 : decide (x13_1 < (l1.length : Int)) = false := decide_eq_false c11
    clear c11
    have H' := Aside0.mk H
    clear H
    go_wp2
    (try simp only [← hl5_1])
    go_roundg k1
    case measure => have := HK1.out; omega
    case rel => exact ⟨(x5_1), (wrap64 (x13_1 + 1)), tQ, H', ⟨kO HK1⟩, ⟨by (try simp only [hl5_1]); (with_reducible repeat (first | apply Kd.R_alloc | apply Kd.R_drewN | apply Kd.R_drew)); exact HO_5.out⟩, ⟨by (try simp only [hl5_1]); (with_reducible repeat (first | refine blk_drewN ?_ _ | refine blk_drew ?_ | refine blk_alloc ?_ _)); exact BK475.out⟩, ⟨kB1 HB GE475⟩⟩
   rw [if_pos c11] at H
   have c11b0 : decide (x13_1 < (l1.length : Int)) = true := decide_eq_true c11
   clear c11
   by_cases c12 : 0 ≤ x13_1
   rotate_left
   ·rw [if_neg c12] at H
    exact absurd H (by simp)
   rw [if_pos c12] at H
   have c12b0 : decide (0 ≤ x13_1) = true := decide_eq_true c12
   clear c12
   by_cases c13 : x13_1 < (x5_1.length : Int)
   rotate_left
   ·rw [if_neg c13] at H
    exact absurd H (by simp)
   rw [if_pos c13] at H
   have c13b0 : decide (x13_1 < (x5_1.length : Int)) = true := decide_eq_true c13
   clear c13
   obtain ⟨y480, hy480⟩ : ∃ y_ : List Int, y_ = (x5_1.set (x13_1 : Int).toNat (Int.tmod (wrap64 (rd l1 x13_1)) 81)) := ⟨_, rfl⟩
   replace H : (w08_currents.l0 k1 l1 y480 (y476.length : Int) (wrap64 (x13_1 + 1))) = some r := by first | (rw [hy480]; with_reducible exact H) | (have H2_ := (Option.bind_some _ _).symm.trans H; rw [hy480]; with_reducible exact H2_) | (have H2_ := (Option.bind_some _ _).symm.trans H; with_reducible exact H2_) | with_reducible exact H | (rw [hy480]; exact H) | exact H
   have Ny480 := Aside0.mk hy480
   clear hy480
   have H' := Aside0.mk H
   clear H
   have p479 : 0 ≤ (x13_1 : Int) := tD
   have q479 : x13_1 < (l1.length : Int) := tD
   obtain ⟨ad479, e479, hx479_0⟩ := Kd.at_int HR1.out x13_1 p479 q479
   cases e479
   replace hx479_0 := cB HB hx479_0
   replace p479 := eq_true p479
   replace q479 := eq_true q479
   have p14 : 0 ≤ (x13_1 : Int) := tD
   have q14 : (x13_1 : Int) < ((x5_1.length : Int) : Int) := tD
   obtain ⟨go14, co14, eo14, gb14, gl14, cl14, HG14⟩ := Kd.R_form HO_5.out (by omega)
   (first | cases eo14 | (injection eo14 with ea_ en_ ec_; (first | subst ea_ | (injection ea_ with ea_; subst ea_)); subst ec_; clear en_))
   have GB14 := Aside0.mk gb14
   have GG14 := Aside0.mk HG14
   clear gb14 gl14 HG14
   obtain ⟨hx14_0, hf14_0⟩ := Kd.R_celln 0 HO_5.out (x13_1 : Int) p14 q14
   replace p14 := eq_true p14
   replace q14 := eq_true q14
   have HP15 := Kd.R_putg HO_5.out (x13_1 : Int) (Int.tmod (wrap64 (rd l1 x13_1)) 81)
   go_wp2_with (first | ((with_reducible refine gate_store (t := 3) (p := 28) rfl ?_); refine store_event (t := 3) (p := 28) (v := ?vo_w16) (w1 := (wr.setCell ⟨go14, (x13_1 : Int).toNat, none⟩ (.int .i64 (Int.tmod (wrap64 (rd l1 x13_1)) 81)))) ?hg ?ho ?hn ?hr ?_; (case ho => rfl); (case hg => rfl); (case hn => rfl); (case hr => first | (go_simp; done) | (go_simp; rfl)); intro w16 hw; have hg : wr.grownBy w16 (some go14) := (by rw [hw]; exact HP15.2); have hp_ : Kd.R (Kd.int .i64) 3 w16 w.heap.size (fun _ => True) (.slice (some ⟨go14, 0, none⟩) x5_1.length co9) y480 := (by rw [hw, Ny480.out]; exact HP15.1); clear HP15; replace BK475 := Aside0.mk (blk_grown (g := gb475) (o := .cells #[.slice A0_0 l0_0.length c0_0, .slice A0_1 l0_1.length c0_1, .slice A0_2 l0_2.length c0_2, .slice A0_3 l0_3.length c0_3, .slice A0_4 l0_4.length c0_4] 28 (0, 0)) (kK BK475) hg (Kd.R_ne HO_5.out BK475.out (by decide))); replace HO_5 := Aside0.mk hp_; replace HB := Aside0.mk ((by rw [hw]; exact below_set (HB.out) GB14.out : Below w.heap.size w w16)); clear hg hw hp_))
   (try simp only [← hl5_1])
   go_roundg k1
   case measure => have := HK1.out; omega
   case rel => exact ⟨(y480), (wrap64 (x13_1 + 1)), tQ, H', ⟨kO HK1⟩, ⟨by (try simp only [hl5_1]); (with_reducible repeat (first | apply Kd.R_alloc | apply Kd.R_drewN | apply Kd.R_drew)); exact HO_5.out⟩, ⟨by (try simp only [hl5_1]); (with_reducible repeat (first | refine blk_drewN ?_ _ | refine blk_drew ?_ | refine blk_alloc ?_ _)); exact BK475.out⟩, ⟨kB1 HB GE475⟩⟩
end Go.Proofs.Ytpdmnineampimaa.Q
