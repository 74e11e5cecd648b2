import Derived.Test.YtpdmnineampimaaYe
set_option linter.unusedVariables false
set_option linter.unusedSimpArgs false
namespace Go.Proofs.Ytpdmnineampimaa.Q
open Go.RowKit Go.Proofs.YtpdmnineampimaaW.PrintWords Go.Proofs.YtpdmnineampimaaW.PrintLast Go.Proofs.YtpdmnineampimaaW.PrintMore
attribute [local go_sem] max2_int min2_int max_two min_two max_three min_three max_four min_four
mutual
def parser_count.l0 : Nat → Int → Int → List (S93) → Int → Int → Option (Int)
  | 0, _, _, _, _, _ => none
  | k + 1, x1, x5, x9, x10, x11 => if x11 < x10 then (if 0 ≤ x11 then (if x11 < (x9.length : Int) then (if x5 > x1 then (some x5) else ((parser_count.f k ((rd_T93 x9 x11).f0) ((rd_T93 x9 x11).f1) ((rd_T93 x9 x11).f2) ((rd_T93 x9 x11).f3) ((rd_T93 x9 x11).f4) (wrap64 (x1 - x5))).bind fun t104 => (parser_count.l0 k x1 (wrap64 (x5 + t104)) x9 x10 (wrap64 (x11 + 1))))) else (none)) else (none)) else (some x5)
def parser_count.f : Nat → Int → ByteArray → Int → Int → List (S93) → Int → Option (Int)
  | 0, _, _, _, _, _, _ => none
  | k + 1, a0_0, a0_1, a0_2, a0_3, l0_4, a1 => parser_count.l0 k a1 1 l0_4 (l0_4.length : Int) 0
end
theorem parser_count.mono_l : ∀ k, (∀ y0 y1 y2 y3 y4 y5, LeO (parser_count.f k y0 y1 y2 y3 y4 y5) (parser_count.f (k + 1) y0 y1 y2 y3 y4 y5)) ∧ (∀ y0 y1 y2 y3 y4, LeO (parser_count.l0 k y0 y1 y2 y3 y4) (parser_count.l0 (k + 1) y0 y1 y2 y3 y4))
  | 0 => ⟨fun _ _ _ _ _ _ r h => by simp [parser_count.f] at h, fun _ _ _ _ _ r h => by simp [parser_count.l0] at h⟩
  | k + 1 => by
    obtain ⟨ih0, ih1⟩ := parser_count.mono_l k
    refine ⟨?_, ?_⟩
    · intro y0 y1 y2 y3 y4 y5
      unfold parser_count.f
      repeat' first | (with_reducible apply ih0) | (with_reducible apply ih1) | (with_reducible exact LeO.refl _) | (with_reducible exact LeO.none _) | (with_reducible refine LeO.ite ?_ ?_) | (with_reducible refine LeO.bind ?_ (fun _ => ?_))
    · intro y0 y1 y2 y3 y4
      unfold parser_count.l0
      repeat' first | (with_reducible apply ih0) | (with_reducible apply ih1) | (with_reducible exact LeO.refl _) | (with_reducible exact LeO.none _) | (with_reducible refine LeO.ite ?_ ?_) | (with_reducible refine LeO.bind ?_ (fun _ => ?_))
theorem parser_count.mono : ∀ a0 a1 a2 a3 a4 a5 k, LeO (parser_count.f k a0 a1 a2 a3 a4 a5) (parser_count.f (k + 1) a0 a1 a2 a3 a4 a5) := by
  intro a0 a1 a2 a3 a4 a5 k
  obtain ⟨ih0, ih1⟩ := parser_count.mono_l k
  exact ih0 a0 a1 a2 a3 a4 a5
set_option maxHeartbeats 8000000 in
set_option maxRecDepth 100000 in
theorem parser_count.calls (k : Nat) : ∀ (a0_0 : Int) (a0_1 : ByteArray) (a0_2 : Int) (a0_3 : Int) (A0_4 : Option Addr) (c0_4 : Nat) (l0_4 : List (S93)) (a1 : Int) (r : Int) (w : World) (hr0_4 : Kd.C k93 w A0_4 l0_4.length l0_4) (hc0_4 : l0_4.length ≤ c0_4) (h : parser_count.f k a0_0 a0_1 a0_2 a0_3 l0_4 a1 = some r),
    Calls Try.prog 54 #[.agg #[.int .i64 a0_0, .string a0_1, .int .i64 a0_2, .int .i64 a0_3, .slice A0_4 l0_4.length c0_4], .int .i64 a1] w fun e w' => e = .returned (.int .i64 r) ∧ Below w.heap.size w w' := by
 induction k using Nat.strongRecOn with
 | _ k ih =>
 intro a0_0 a0_1 a0_2 a0_3 A0_4 c0_4 l0_4 a1 r w hr0_4 hc0_4 h
 cases k with
 | zero => exact absurd h (by simp [parser_count.f])
 | succ k =>
 simp only [parser_count.f] at h
 have hu93 := Try.underlying93
 have HR0_4 := Aside0.mk hr0_4
 have HC0_4 := Aside0.mk hc0_4
 clear hr0_4 hc0_4
 have HB := Aside0.mk (Below.refl w.heap.size w)
 (try unfold parser_count.f at h)
 have H := h
 clear h
 have H' := Aside0.mk H
 clear H
 go_enter Try.func54, Try.ntmps54
 go_wp2_with (first | ((with_reducible refine gate_dst (N := 2) rfl ?_); refine bE 2 93 #[.int .i64 a0_0, .string a0_1, .int .i64 a0_2, .int .i64 a0_3, .slice A0_4 l0_4.length c0_4] ?_; intro gb101 hg w3 hbox hb; have BK101 := Aside0.mk hbox; have GW101 := gE hg (kB HB); have GE101 := gE hg (kB HB); replace HB := bS (kB HB) hb; clear hb hbox hg; obtain ⟨⟨_,_,_,_,_⟩,_,_,_,_,_⟩ := bx5 BK101))
 go_loopg [5, 11] k (fun kq v5 v11 w' => ∃ (x5_1 : Int) (x11_1 : Int), v5 = .int .i64 x5_1 ∧ v11 = .int .i64 x11_1 ∧ Aside0 (parser_count.l0 kq a1 x5_1 l0_4 (l0_4.length : Int) x11_1 = some r) ∧ Aside0 (kq ≤ k) ∧ Aside0 (w'.heap[gb101]? = some (.cells #[.int .i64 a0_0, .string a0_1, .int .i64 a0_2, .int .i64 a0_3, (.slice A0_4 l0_4.length c0_4)] 93 (0, 0))) ∧ Aside0 (Below w.heap.size w w'))
 case atStart => exact ⟨(1), (0), tQ, tQ, H', ⟨Nat.le_refl _⟩, ⟨kK BK101⟩, ⟨kB1 HB GE101⟩⟩
 case round =>
  clear H'
  obtain ⟨x5_1, x11_1, rfl, rfl, HA, HK1, BK101, HB⟩ := hrel
  cases gk with
  | zero => exact absurd HA.out (by simp [parser_count.l0])
  | succ k1 =>
   have H := HA.out
   clear HA
   simp only [parser_count.l0] at H
   by_cases c5 : x11_1 < (l0_4.length : Int)
   rotate_left
   ·rw [if_neg c5] at H
    have c5b0 : decide (x11_1 < (l0_4.length : Int)) = false := decide_eq_false c5
    clear c5
    obtain rfl := Option.some.inj H
    go_wp2
    go_ret
    exact ⟨tE, kB1 HB GE101⟩
   rw [if_pos c5] at H
   have c5b0 : decide (x11_1 < (l0_4.length : Int)) = true := decide_eq_true c5
   clear c5
   by_cases c6 : 0 ≤ x11_1
   rotate_left
   ·rw [if_neg c6] at H
    exact absurd H (by simp)
   rw [if_pos c6] at H
   have c6b0 : decide (0 ≤ x11_1) = true := decide_eq_true c6
   clear c6
   by_cases c7 : x11_1 < (l0_4.length : Int)
   rotate_left
   ·rw [if_neg c7] at H
    exact absurd H (by simp)
   rw [if_pos c7] at H
   have c7b0 : decide (x11_1 < (l0_4.length : Int)) = true := decide_eq_true c7
   clear c7
   by_cases c8 : x5_1 > a1
   ·rw [if_pos c8] at H
    have c8b0 : decide (a1 < x5_1) = true := decide_eq_true c8
    clear c8
    obtain rfl := Option.some.inj H
    have p102 : 0 ≤ (x11_1 : Int) := tD
    have q102 : x11_1 < (l0_4.length : Int) := tD
    obtain ⟨ad102, A102_4, c102_4, e102, hx102_0, hx102_1, hx102_2, hx102_3, hx102_4, hl102_4, hi102_4⟩ := at_T93 HR0_4.out x11_1 p102 q102
    cases e102
    replace hx102_0 := cB HB hx102_0
    replace hx102_1 := cB HB hx102_1
    replace hx102_2 := cB HB hx102_2
    replace hx102_3 := cB HB hx102_3
    replace hx102_4 := cB HB hx102_4
    have HR102_4 := Aside0.mk hi102_4
    have HC102_4 := Aside0.mk hl102_4
    clear hi102_4 hl102_4
    replace p102 := eq_true p102
    replace q102 := eq_true q102
    go_wp2_with (first | ((with_reducible refine gate_dst (N := 7) rfl ?_); refine bE 7 93 #[.int .i64 0, .string (⟨#[]⟩ : ByteArray), .int .i64 0, .int .i64 0, .slice none 0 0] ?_; intro gb103 hg w9 hbox hb; have BK103 := Aside0.mk hbox; have GW103 := gE hg (kB1 HB GE101); have GE103 := gE hg (kB1 HB GE101); replace HB := bS (kB1 HB GE101) hb; have NB101_103 := nL hg BK101; have NB103_101 := nG hg BK101; replace BK101 := bK BK101 hb; clear hb hbox hg; have hnb10 := NB103_101.out; have hnc10 := NB101_103.out; obtain ⟨⟨_,_,_,_,_⟩,_,_,_,_,_⟩ := bx5 BK103))
    go_ret
    exact ⟨tE, kB2 HB GE101 GE103⟩
   rw [if_neg c8] at H
   have c8b0 : decide (a1 < x5_1) = false := decide_eq_false c8
   clear c8
   obtain ⟨t104, A12, H⟩ := bnd H
   have H' := Aside0.mk H
   clear H
   have p102 : 0 ≤ (x11_1 : Int) := tD
   have q102 : x11_1 < (l0_4.length : Int) := tD
   obtain ⟨ad102, A102_4, c102_4, e102, hx102_0, hx102_1, hx102_2, hx102_3, hx102_4, hl102_4, hi102_4⟩ := at_T93 HR0_4.out x11_1 p102 q102
   cases e102
   replace hx102_0 := cB HB hx102_0
   replace hx102_1 := cB HB hx102_1
   replace hx102_2 := cB HB hx102_2
   replace hx102_3 := cB HB hx102_3
   replace hx102_4 := cB HB hx102_4
   have HR102_4 := Aside0.mk hi102_4
   have HC102_4 := Aside0.mk hl102_4
   clear hi102_4 hl102_4
   replace p102 := eq_true p102
   replace q102 := eq_true q102
   go_wp2_with (first | ((with_reducible refine gate_dst (N := 7) rfl ?_); refine bE 7 93 #[.int .i64 0, .string (⟨#[]⟩ : ByteArray), .int .i64 0, .int .i64 0, .slice none 0 0] ?_; intro gb103 hg w13 hbox hb; have BK103 := Aside0.mk hbox; have GW103 := gE hg (kB1 HB GE101); have GE103 := gE hg (kB1 HB GE101); replace HB := bS (kB1 HB GE101) hb; have NB101_103 := nL hg BK101; have NB103_101 := nG hg BK101; replace BK101 := bK BK101 hb; clear hb hbox hg; have hnb14 := NB103_101.out; have hnc14 := NB101_103.out; obtain ⟨⟨_,_,_,_,_⟩,_,_,_,_,_⟩ := bx5 BK103) | ((with_reducible refine gate_callee (f := 54) rfl ?_); refine goesL_ (some 23) rfl rfl Try.func54 (by kernel_rfl) rfl #[.agg #[.int .i64 ((rd_T93 l0_4 x11_1).f0), .string ((rd_T93 l0_4 x11_1).f1), .int .i64 ((rd_T93 l0_4 x11_1).f2), .int .i64 ((rd_T93 l0_4 x11_1).f3), .slice A102_4 ((rd_T93 l0_4 x11_1).f4).length c102_4], .int .i64 (wrap64 (a1 - x5_1))] rfl tL ?_; (with_reducible refine (ih k1 (kO HK1) ((rd_T93 l0_4 x11_1).f0) ((rd_T93 l0_4 x11_1).f1) ((rd_T93 l0_4 x11_1).f2) ((rd_T93 l0_4 x11_1).f3) _ _ ((rd_T93 l0_4 x11_1).f4) (wrap64 (a1 - x5_1)) t104 _ ?side1 ?side2 A12.out).mono ?_); (case side1 => exact Kd.C_below HR102_4.out (kB2 HB GE101 GE103)); (case side2 => exact HC102_4.out); rintro e w16 ⟨rfl, hb⟩; refine ⟨_, rfl, ?_⟩; replace BK101 := Aside0.mk (blk_below (g := gb101) (o := .cells #[.int .i64 a0_0, .string a0_1, .int .i64 a0_2, .int .i64 a0_3, .slice (some ad102) l0_4.length c0_4] 93 (0, 0)) (kN BK101) hb); replace BK103 := Aside0.mk (blk_below (g := gb103) (o := .cells #[.int .i64 ((rd_T93 l0_4 x11_1).f0), .string ((rd_T93 l0_4 x11_1).f1), .int .i64 ((rd_T93 l0_4 x11_1).f2), .int .i64 ((rd_T93 l0_4 x11_1).f3), .slice A102_4 ((rd_T93 l0_4 x11_1).f4).length c102_4] 93 (0, 0)) (kN BK103) hb); replace HB := bS (kB2 HB GE101 GE103) hb))
   go_roundg k1
   case measure => have := HK1.out; omega
   case rel => exact ⟨(wrap64 (x5_1 + t104)), (wrap64 (x11_1 + 1)), tQ, tQ, H', ⟨kO HK1⟩, ⟨kK BK101⟩, ⟨kB2 HB GE101 GE103⟩⟩
end Go.Proofs.Ytpdmnineampimaa.Q
