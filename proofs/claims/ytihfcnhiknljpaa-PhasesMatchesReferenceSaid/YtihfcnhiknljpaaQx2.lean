-- Written by a program of this session (wip/tools/mk.py), through the kit's print program.
import Derived.Test.YtihfcnhiknljpaaQx0
import Derived.Test.YtihfcnhiknljpaaQx1
namespace Go.Proofs.Ytihfcnhiknljpaa.Q
open Go.RowKit Go.Proofs.YtihfcnhiknljpaaW.PrintWords Go.Proofs.YtihfcnhiknljpaaW.PrintLast Go.Proofs.YtihfcnhiknljpaaW.PrintMore
attribute [local go_sem] max2_int min2_int max_two min_two max_three min_three max_four min_four   -- for this text's walks alone
set_option linter.unusedVariables false
set_option linter.unusedSimpArgs false

/-! ### phases_areCurrents: function 18 -/
def phases_areCurrents.l0 : Nat → List Int → Int → Int → Option (Bool)
  | 0, _, _, _ => none
  | k + 1, x5, x6, x7 => if x7 < x6 then (if 0 ≤ x7 then (if x7 < (x5.length : Int) then (if (rd x5 x7) < 0 then (some false) else (if (rd x5 x7) > 1000 then (some false) else (phases_areCurrents.l0 k x5 x6 (wrap64 (x7 + 1))))) else (none)) else (none)) else (some true)
def phases_areCurrents.f (k : Nat) (l0 : List Int) : Option (Bool) := phases_areCurrents.l0 k l0 (l0.length : Int) 0
theorem phases_areCurrents.mono_l : ∀ k, (∀ y0 y1 y2, LeO (phases_areCurrents.l0 k y0 y1 y2) (phases_areCurrents.l0 (k + 1) y0 y1 y2))
  | 0 => fun _ _ _ r h => by simp [phases_areCurrents.l0] at h
  | k + 1 => by
    have ih0 := phases_areCurrents.mono_l k
    · intro y0 y1 y2
      unfold phases_areCurrents.l0
      repeat' first
      | (with_reducible exact ih0 _ _ _)
      | (with_reducible exact LeO.refl _)
      | (with_reducible exact LeO.none _)
      | (with_reducible refine LeO.ite ?_ ?_)
      | (with_reducible refine LeO.bind ?_ (fun _ => ?_))
      | exact ih0 _ _ _
      | exact LeO.none _
      | refine LeO.ite ?_ ?_
      | refine LeO.bind ?_ (fun _ => ?_)
theorem phases_areCurrents.mono : ∀ a0 k, LeO (phases_areCurrents.f k a0) (phases_areCurrents.f (k + 1) a0) := by
  intro a0 k
  have ih0 := phases_areCurrents.mono_l k
  unfold phases_areCurrents.f
  repeat' first
      | (with_reducible exact ih0 _ _ _)
      | (with_reducible exact LeO.refl _)
      | (with_reducible exact LeO.none _)
      | (with_reducible refine LeO.ite ?_ ?_)
      | (with_reducible refine LeO.bind ?_ (fun _ => ?_))
      | exact ih0 _ _ _
      | exact LeO.none _
      | refine LeO.ite ?_ ?_
      | refine LeO.bind ?_ (fun _ => ?_)
set_option maxHeartbeats 8000000 in
set_option maxRecDepth 100000 in
theorem phases_areCurrents.calls (k : Nat) (A0 : Option Addr) (c0 : Nat) (l0 : List Int) (r : Bool) (w : World) (hr0 : Kd.C (Kd.int .i64) w A0 l0.length l0) (hc0 : l0.length ≤ c0) (h : phases_areCurrents.f k l0 = some r) :
    Calls Try.prog 18 #[.slice A0 l0.length c0] w fun e w' => e = .returned (.bool r) ∧ Drawn0 w w' := by
  have HR0 := Aside0.mk hr0
  have HC0 := Aside0.mk hc0
  clear hr0 hc0
  have H : (phases_areCurrents.l0 k l0 (l0.length : Int) 0) = some r := h
  clear h
  have H' := Aside0.mk H
  clear H
  go_enter Try.func18, Try.ntmps18
  go_wp2
  go_loopg [7] k (fun kq v7 w' => ∃ (x7_1 : Int), v7 = .int .i64 x7_1 ∧ Aside0 (phases_areCurrents.l0 kq l0 (l0.length : Int) x7_1 = some r) ∧ Aside0 (kq ≤ k) ∧ Drawn0 w w')
  case atStart => exact ⟨(0), (by first | rfl | (simp; done) | (simp [*]; done)), H', ⟨Nat.le_refl _⟩, by repeat (first | exact Drawn0.refl _ | apply Drawn0.step)⟩
  case round =>
    clear H'
    try clear c1
    obtain ⟨x7_1, rfl, HA, HK1, ⟨m1, rfl⟩⟩ := hrel
    cases gk with
    | zero => exact absurd HA.out (by simp [phases_areCurrents.l0])
    | succ k1 =>
      have H := HA.out
      clear HA
      simp only [phases_areCurrents.l0] at H
      by_cases c2 : x7_1 < (l0.length : Int)
      · rw [if_pos c2] at H
        have c2b0 : decide (x7_1 < (l0.length : Int)) = true := decide_eq_true c2
        clear c2
        by_cases c3 : 0 ≤ x7_1
        · rw [if_pos c3] at H
          have c3b0 : decide (0 ≤ x7_1) = true := decide_eq_true c3
          clear c3
          by_cases c4 : x7_1 < (l0.length : Int)
          · rw [if_pos c4] at H
            have c4b0 : decide (x7_1 < (l0.length : Int)) = true := decide_eq_true c4
            clear c4
            by_cases c5 : (rd l0 x7_1) < 0
            · rw [if_pos c5] at H
              have c5b0 : decide ((rd l0 x7_1) < 0) = true := decide_eq_true c5
              clear c5
              obtain rfl := Option.some.inj H
              have p101 : 0 ≤ (x7_1 : Int) := of_decide_eq_true (by first | (with_reducible assumption) | assumption)
              have q101 : x7_1 < (l0.length : Int) := of_decide_eq_true (by first | (with_reducible assumption) | assumption)
              obtain ⟨ad101, e101, hx101_0⟩ := Kd.at_int HR0.out x7_1 p101 q101
              cases e101
              replace p101 := eq_true p101
              replace q101 := eq_true q101
              go_wp2
              go_ret
              exact ⟨by first | rfl | (simp; done) | (simp [*]; done), by repeat (first | exact Drawn0.refl _ | apply Drawn0.step)⟩
            · rw [if_neg c5] at H
              have c5b0 : decide ((rd l0 x7_1) < 0) = false := decide_eq_false c5
              clear c5
              by_cases c6 : (rd l0 x7_1) > 1000
              · rw [if_pos c6] at H
                have c6b0 : decide (1000 < (rd l0 x7_1)) = true := decide_eq_true c6
                clear c6
                obtain rfl := Option.some.inj H
                have p101 : 0 ≤ (x7_1 : Int) := of_decide_eq_true (by first | (with_reducible assumption) | assumption)
                have q101 : x7_1 < (l0.length : Int) := of_decide_eq_true (by first | (with_reducible assumption) | assumption)
                obtain ⟨ad101, e101, hx101_0⟩ := Kd.at_int HR0.out x7_1 p101 q101
                cases e101
                replace p101 := eq_true p101
                replace q101 := eq_true q101
                go_wp2
                go_ret
                exact ⟨by first | rfl | (simp; done) | (simp [*]; done), by repeat (first | exact Drawn0.refl _ | apply Drawn0.step)⟩
              · rw [if_neg c6] at H
                have c6b0 : decide (1000 < (rd l0 x7_1)) = false := decide_eq_false c6
                clear c6
                have H' := Aside0.mk H
                clear H
                have p101 : 0 ≤ (x7_1 : Int) := of_decide_eq_true (by first | (with_reducible assumption) | assumption)
                have q101 : x7_1 < (l0.length : Int) := of_decide_eq_true (by first | (with_reducible assumption) | assumption)
                obtain ⟨ad101, e101, hx101_0⟩ := Kd.at_int HR0.out x7_1 p101 q101
                cases e101
                replace p101 := eq_true p101
                replace q101 := eq_true q101
                go_wp2
                go_roundg k1
                case measure => have := HK1.out; omega
                case rel => exact ⟨(wrap64 (x7_1 + 1)), (by first | rfl | (simp; done) | (simp [*]; done)), H', ⟨by have := HK1.out; omega⟩, by repeat (first | exact Drawn0.refl _ | apply Drawn0.step)⟩
          · rw [if_neg c4] at H
            exact absurd H (by simp)
        · rw [if_neg c3] at H
          exact absurd H (by simp)
      · rw [if_neg c2] at H
        have c2b0 : decide (x7_1 < (l0.length : Int)) = false := decide_eq_false c2
        clear c2
        obtain rfl := Option.some.inj H
        go_wp2
        go_ret
        exact ⟨by first | rfl | (simp; done) | (simp [*]; done), by repeat (first | exact Drawn0.refl _ | apply Drawn0.step)⟩

/-! ### phases_Neutral: function 11 -/
-- FOREIGN chargepark/phases.Neutral
-- MAKING 1
-- NEEDS chargepark/phases.areCurrents
def isCur (a : Int) : Bool := decide (0 ≤ a) && decide (a ≤ 1000)
theorem areCurrents_spec (l : List Int) : ∀ (d k : Nat) (i : Int), 0 ≤ i → i + d = l.length → d < k → l.length ≤ 1000 →
    phases_areCurrents.l0 k l l.length i = some ((l.drop i.toNat).all isCur) := by
  intro d
  induction d with
  | zero =>
    intro k i h0 h1 hk hl
    obtain ⟨k, rfl⟩ : ∃ m, k = m + 1 := ⟨k - 1, by omega⟩
    simp only [phases_areCurrents.l0]
    rw [if_neg (by omega), List.drop_of_length_le (by omega)]; rfl
  | succ d ih =>
    intro k i h0 h1 hk hl
    obtain ⟨k, rfl⟩ : ∃ m, k = m + 1 := ⟨k - 1, by omega⟩
    simp only [phases_areCurrents.l0]
    rw [if_pos (by omega), if_pos h0, if_pos (by omega)]
    have hlt : i.toNat < l.length := by omega
    have e : rd l i = l[i.toNat] := by simp [rd, List.getD_eq_getElem?_getD, hlt]
    rw [List.drop_eq_getElem_cons hlt, List.all_cons, e]
    unfold isCur
    by_cases c1 : l[i.toNat] < 0
    · rw [if_pos c1]; simp; intro h; omega
    · rw [if_neg c1]
      by_cases c2 : l[i.toNat] > 1000
      · rw [if_pos c2]; simp; intro h h2; omega
      · rw [if_neg c2, hb_wrap64 _ (by omega) (by omega), ih k (i + 1) (by omega) (by omega) (by omega) hl]
        have : (i + 1).toNat = i.toNat + 1 := by omega
        rw [this]
        have d1 : decide (0 ≤ l[i.toNat]) = true := by simp; omega
        have d2 : decide (l[i.toNat] ≤ 1000) = true := by simp; omega
        rw [d1, d2]; rfl
theorem areCurrents_three (a b c : Int) (k : Nat) (hk : 3 < k) : phases_areCurrents.f k [a, b, c] = some (isCur a && isCur b && isCur c) := by
  unfold phases_areCurrents.f
  rw [areCurrents_spec _ 3 k 0 (by omega) rfl hk (by simp)]
  simp [Bool.and_assoc]
theorem sq2_le {n m : Int} (h0 : 0 ≤ n) (h1 : n ≤ m) : 0 ≤ 2 * n * n ∧ 2 * n * n ≤ 2 * m * m := by
  have a := Int.mul_le_mul h1 h1 h0 (by omega)
  have b := Int.mul_nonneg h0 h0
  rw [Int.mul_assoc, Int.mul_assoc]; omega
theorem neutral1 (n q : Int) (w : World) (b : Nat) (hb : w.cell? ⟨b, 0, none⟩ = some (.int .i64 q)) (h0 : 0 ≤ n) (h1 : n ≤ 1000) :
    Calls Try.prog 20 #[.int .i64 n, .pointer (some ⟨b, 0, none⟩)] w fun e w' => e = .returned (.bool (decide (q ≤ 2 * n * n))) ∧ w = w' := by
  obtain ⟨g0, g1⟩ := sq2_le h0 h1
  go_enter Try.func20, Try.ntmps20
  go_wp2
  go_ret
  exact ⟨rfl, rfl⟩
def RetB (F : Int → Bool) (n : Int) (w : World) (e : Ending) (w' : World) : Prop := e = .returned (.bool (F n)) ∧ w = w'
theorem least_calls (F : Int → Bool) (b : Nat) (w : World)
    (hF : ∀ n : Int, 0 ≤ n → n ≤ 1000 → Calls Try.prog 20 #[.int .i64 n, .pointer (some ⟨b, 0, none⟩)] w (RetB F n w))
    (hmono : ∀ n m : Int, 0 ≤ n → n ≤ m → F n = true → F m = true)
    (hi : Int) (h1 : 0 ≤ hi) (h2 : hi ≤ 1000) (r : Int) (hr0 : 0 ≤ r) (hrh : r ≤ hi) (hlt : ∀ n, 0 ≤ n → n < r → F n = false) (hge : r < hi → F r = true) :
    Calls Try.prog 19 #[.int .i64 0, .int .i64 hi, .func (.func 20) #[] #[.pointer (some ⟨b, 0, none⟩)]] w fun e w' => e = .returned (.int .i64 r) ∧ w = w' := by
  have HF := Lib.hid hF
  have HM := Lib.hid hmono
  have HL := Lib.hid hlt
  have HG := Lib.hid hge
  clear hF hmono hlt hge
  go_enter Try.func19, Try.ntmps19
  go_wp2_with fail
  go_loop [0, 1] (fun a c => ∃ l h : Int, 0 ≤ l ∧ l ≤ r ∧ r ≤ h ∧ h ≤ hi ∧ a = .int .i64 l ∧ c = .int .i64 h) (fun a c => (intOf c - intOf a).toNat)
  case atStart => exact ⟨0, hi, by omega, by omega, by omega, by omega, rfl, rfl⟩
  case round =>
    obtain ⟨l, h, g0, g1, g2, g3, rfl, rfl⟩ := hrel
    by_cases hlt : l < h
    · by_cases hm : F (l + (h - l) / 2) = true
      · go_wp2_with fail
        refine (HF.out _ (by omega) (by omega)).mono ?_
        rintro e w1 ⟨rfl, rfl⟩
        rw [hm]
        go_wp2_with fail
        go_round
        case rel =>
          refine ⟨l, l + (h - l) / 2, g0, g1, ?_, by omega, rfl, rfl⟩
          rcases Int.lt_or_le (l + (h - l) / 2) r with hh | hh
          · have := HL.out _ (by omega) hh; rw [this] at hm; cases hm
          · exact hh
        case measure => simp [intOf]; omega
      · replace hm : F (l + (h - l) / 2) = false := by simpa using hm
        go_wp2_with fail
        refine (HF.out _ (by omega) (by omega)).mono ?_
        rintro e w1 ⟨rfl, rfl⟩
        rw [hm]
        go_wp2_with fail
        go_round
        case rel =>
          refine ⟨l + (h - l) / 2 + 1, h, by omega, ?_, g2, by omega, rfl, rfl⟩
          rcases Int.lt_or_le (l + (h - l) / 2) r with hh | hh
          · omega
          · have := HM.out _ _ (by omega) hh (HG.out (by omega)); rw [this] at hm; cases hm
        case measure => simp [intOf]; omega
    · go_wp2_with fail
      go_ret
      have : l = r := by omega
      subst this
      exact ⟨rfl, rfl⟩
def qOf (a b c : Int) : Int := (a - b) * (a - b) + (b - c) * (b - c) + (c - a) * (c - a)
def nn (q : Int) : Int := leastF (fun n => decide (q ≤ 2 * n * n)) 0 1000
def phases_Neutral.f (a0 : Int) (a1 : Int) (a2 : Int) : Option (Int × Int) := if isCur a0 && isCur a1 && isCur a2 then some (nn (qOf a0 a1 a2), 0) else some (0, 1)
theorem neutral_bad (a b c : Int) (w : World) (hbad : (isCur a && isCur b && isCur c) = false) :
    Calls Try.prog 11 #[.int .i64 a, .int .i64 b, .int .i64 c] w fun e w' => e = .returned (.tuple #[.int .i64 0, .int .i64 1]) ∧ Below w.heap.size w w' := by
  have hk := areCurrents_three a b c 4 (by omega)
  rw [hbad] at hk
  have HK := Lib.hid hk
  have HB := Lib.hid hbad
  clear hk hbad
  have hC := fun W => phases_areCurrents.calls 4 (some ⟨w.heap.size, 0, none⟩) 3 [a, b, c] false W
  have HC := Lib.hid hC
  clear hC
  go_enter Try.func11, Try.ntmps11
  go_wp2_with fail
  refine (HC.out _ (hb_C_row (by simp) (heap_alloc_new _ _)) (by simp) HK.out).mono ?_
  rintro e w1 ⟨rfl, hd⟩
  have hd' := hd.below
  clear hd
  go_wp2_with fail
  go_ret2
  exact ⟨rfl, ((Below.refl _ _).alloc (Nat.le_refl _) _).trans (hd'.mono (by simp))⟩
theorem neutral_good (a b c : Int) (w : World) (hok : (isCur a && isCur b && isCur c) = true) :
    Calls Try.prog 11 #[.int .i64 a, .int .i64 b, .int .i64 c] w fun e w' => e = .returned (.tuple #[.int .i64 (nn (qOf a b c)), .int .i64 0]) ∧ Below w.heap.size w w' := by
  have hk := areCurrents_three a b c 4 (by omega)
  rw [hok] at hk
  have HK := Lib.hid hk
  simp only [isCur, Bool.and_eq_true, decide_eq_true_eq] at hok
  obtain ⟨⟨⟨a0, a1⟩, b0, b1⟩, c0, c1⟩ := hok
  have q1 := hb_sq (d := a - b) 1000 (by omega) (by omega)
  have q2 := hb_sq (d := b - c) 1000 (by omega) (by omega)
  have q3 := hb_sq (d := c - a) 1000 (by omega) (by omega)
  obtain ⟨q11, q12⟩ := q1
  obtain ⟨q21, q22⟩ := q2
  obtain ⟨q31, q32⟩ := q3
  clear hk
  have hC := fun W => phases_areCurrents.calls 4 (some ⟨w.heap.size, 0, none⟩) 3 [a, b, c] true W
  have HC := Lib.hid hC
  clear hC
  obtain ⟨r, er⟩ : ∃ r, nn (qOf a b c) = r := ⟨_, rfl⟩
  have hs := leastF_spec (fun n => decide (qOf a b c ≤ 2 * n * n)) 1000 0
  rw [show leastF (fun n => decide (qOf a b c ≤ 2 * n * n)) 0 1000 = r from er] at hs
  rw [er]
  have HS := Lib.hid hs
  clear hs er
  have hn1 := fun (n : Int) (W : World) hb h0 h1 => neutral1 n (qOf a b c) W (w.heap.size + 1) hb h0 h1
  have HN1 := Lib.hid hn1
  clear hn1
  have hq : (a - b) * (a - b) + (b - c) * (b - c) + (c - a) * (c - a) = qOf a b c := rfl
  have HQ := Lib.hid hq
  clear hq
  go_enter Try.func11, Try.ntmps11
  go_wp2_with fail
  refine (HC.out _ (hb_C_row (by simp) (heap_alloc_new _ _)) (by simp) HK.out).mono ?_
  rintro e w1 ⟨rfl, ⟨n1, rfl⟩⟩
  go_wp2_with fail
  refine (least_calls (fun n => decide (qOf a b c ≤ 2 * n * n)) (w.heap.size + 1) _ (fun n h0 h1 => (HN1.out n _ (by rw [World.cell?_alloc_at _ _ _ _ (by simp), HQ.out]; rfl) h0 h1).mono (fun _ _ h => h)) (fun n m h0 h1 h2 => by
    have := sq2_le h0 h1
    simp only [decide_eq_true_eq] at h2 ⊢
    omega) 1000 (by omega) (by omega) r HS.out.1 (by have := HS.out.2.1; omega) HS.out.2.2.1 (fun h => HS.out.2.2.2 (by omega))).mono ?_
  rintro e w1 ⟨rfl, rfl⟩
  go_wp2_with fail
  go_ret2
  exact ⟨rfl, below_alloc (pw_below_drewN (below_alloc (Below.refl _ _) _) _) _⟩
theorem phases_Neutral.calls (a0 : Int) (a1 : Int) (a2 : Int) (r1 : Int) (r2 : Int) (w : World) (h : phases_Neutral.f a0 a1 a2 = some (r1, r2)) :
    Calls Try.prog 11 #[.int .i64 a0, .int .i64 a1, .int .i64 a2] w fun e w' => e = .returned (.tuple #[.int .i64 r1, .int .i64 r2]) ∧ Below w.heap.size w w' := by
  unfold phases_Neutral.f at h
  by_cases c : (isCur a0 && isCur a1 && isCur a2) = true
  · rw [if_pos c] at h
    simp only [Option.some.injEq, Prod.mk.injEq] at h
    obtain ⟨rfl, rfl⟩ := h
    exact neutral_good a0 a1 a2 w c
  · rw [if_neg c] at h
    simp only [Option.some.injEq, Prod.mk.injEq] at h
    obtain ⟨rfl, rfl⟩ := h
    exact neutral_bad a0 a1 a2 w (by simpa using c)

/-! ### phases_Worst: function 13 -/
def phases_Worst.f (k : Nat) (a0 : Int) (a1 : Int) (a2 : Int) : Option (Int × Int) := (phases_areCurrents.f k (([a0, a1, a2] : List Int))).bind fun t105 => (if t105 = true then (some (mx (mx a0 a1) a2, 0)) else (some (0, 1)))
theorem phases_Worst.mono : ∀ a0 a1 a2 k, LeO (phases_Worst.f k a0 a1 a2) (phases_Worst.f (k + 1) a0 a1 a2) := by
  intro a0 a1 a2 k
  unfold phases_Worst.f
  repeat' first
      | (with_reducible exact phases_areCurrents.mono _ _)
      | (with_reducible exact LeO.refl _)
      | (with_reducible exact LeO.none _)
      | (with_reducible refine LeO.ite ?_ ?_)
      | (with_reducible refine LeO.bind ?_ (fun _ => ?_))
      | exact phases_areCurrents.mono _ _
      | exact LeO.none _
      | refine LeO.ite ?_ ?_
      | refine LeO.bind ?_ (fun _ => ?_)
set_option maxHeartbeats 8000000 in
set_option maxRecDepth 100000 in
theorem phases_Worst.calls (k : Nat) (a0 : Int) (a1 : Int) (a2 : Int) (r1 : Int) (r2 : Int) (w : World) (h : phases_Worst.f k a0 a1 a2 = some (r1, r2)) :
    Calls Try.prog 13 #[.int .i64 a0, .int .i64 a1, .int .i64 a2] w fun e w' => e = .returned (.tuple #[.int .i64 r1, .int .i64 r2]) ∧ Below w.heap.size w w' := by
  have HB := Aside0.mk (Below.refl w.heap.size w)
  have H : ((phases_areCurrents.f k (([a0, a1, a2] : List Int))).bind fun t105 => (if t105 = true then (some (mx (mx a0 a1) a2, 0)) else (some (0, 1)))) = some (r1, r2) := h
  clear h
  obtain ⟨y102, hy102⟩ : ∃ y_ : List Int, y_ = (([a0, a1, a2] : List Int)) := ⟨_, rfl⟩
  replace H : ((phases_areCurrents.f k y102).bind fun t105 => (if t105 = true then (some (mx (mx a0 a1) a2, 0)) else (some (0, 1)))) = some (r1, r2) := by first | (rw [hy102]; with_reducible exact H) | (have H2_ := (Option.bind_some _ _).symm.trans H; rw [hy102]; with_reducible exact H2_) | (have H2_ := (Option.bind_some _ _).symm.trans H; with_reducible exact H2_) | with_reducible exact H | (rw [hy102]; exact H) | exact H
  have Ny102 := Aside0.mk hy102
  clear hy102
  replace H := Option.bind_eq_some_iff.mp H
  obtain ⟨t105, A40, H⟩ := H
  replace H : (if t105 = true then (some (mx (mx a0 a1) a2, 0)) else (some (0, 1))) = some (r1, r2) := H
  have A4 := Aside0.mk A40
  clear A40
  by_cases c5 : t105 = true
  · subst c5
    have H1 : (some (mx (mx a0 a1) a2, 0)) = some (r1, r2) := by rw [if_pos rfl] at H; exact H
    clear H
    have H := H1
    clear H1
    obtain ⟨ji6, hji6⟩ : ∃ j_ : Int, (mx a0 a1) = j_ := ⟨_, rfl⟩
    replace H : (some (mx (ji6) a2, 0)) = some (r1, r2) := by first | (rw [hji6] at H; exact H) | (simp only [hji6] at H ⊢; exact H)
    (try rw [hji6] at A4)
    have hji6_ : (if a0 < a1 then a1 else a0) = ji6 := hji6
    obtain ⟨ji7, hji7⟩ : ∃ j_ : Int, (mx (ji6) a2) = j_ := ⟨_, rfl⟩
    replace H : (some (ji7, 0)) = some (r1, r2) := by first | (rw [hji7] at H; exact H) | (simp only [hji7] at H ⊢; exact H)
    (try rw [hji7] at A4)
    have hji7_ : (if (ji6) < a2 then a2 else (ji6)) = ji7 := hji7
    simp only [Option.some.injEq, Prod.mk.injEq] at H
    obtain ⟨rfl, rfl⟩ := H
    go_enter Try.func13, Try.ntmps13
    go_wp2_with (first | ((with_reducible refine gate_dst (N := 11) rfl ?_); refine Kd.R_lit (Kd.int .i64) _ 3 ?hg (N := 11) ?hd (xs := ([a0, a1, a2] : List Int)) (inner := [.int .i64 a0, .int .i64 a1, .int .i64 a2]) (ok := fun _ => True) (okp := fun _ => True) ?hr ?hp (fun _ hk => hk) trivial (Below.refl _ _) (Nat.le_refl _) (by simp) ?_; (case hd => rfl); (case hg => rfl); (case hr => first | (go_simp; done) | (go_simp; rfl)); (case hp => exact (Reps.one (show Kd.M (Kd.int .i64) _ _ _ a0 [.int .i64 a0] from rfl) (Reps.one (show Kd.M (Kd.int .i64) _ _ _ a1 [.int .i64 a1] from rfl) (Reps.one (show Kd.M (Kd.int .i64) _ _ _ a2 [.int .i64 a2] from rfl) (Reps.none _ _))))); intro v103 w8 ho9 hb hg_ hnew_; clear hg_ hnew_; (first | rw [← Ny102.out] at ho9 | (simp only [Int.reduceToNat] at ho9; rw [← Ny102.out] at ho9)); have n0_ := Aside0.mk (Kd.R_lower ho9 (below_size (by repeat (first | (with_reducible first | exact HB.out | apply below_alloc | apply pw_below_drewN | apply below_drew1) | exact HB.out)))); have n1_ := Aside0.mk (below_step (by repeat (first | (with_reducible first | exact HB.out | apply below_alloc | apply pw_below_drewN | apply below_drew1) | exact HB.out)) hb); clear HB; have HO104 := n0_; have HB := n1_; clear n0_ n1_; clear hb ho9; obtain ⟨Ao10, co10, eo10⟩ := Kd.R_slice HO104.out; subst eo10) | ((with_reducible refine gate_callee (f := 18) rfl ?_); refine goesL_ (some 12) rfl rfl Try.func18 (by kernel_rfl) rfl #[.slice Ao10 y102.length co10] rfl (by (try simp only [List.map_toArray, List.map_cons, List.map_nil]); first | done | rfl | (simp only [List.length_drop, List.length_take]; rfl)) ?_; (with_reducible refine (phases_areCurrents.calls k _ _ y102 true _ ?side1 ?side2 A4.out).mono ?_); (case side1 => repeat (first | exact (Kd.R_reads' HO104.out).2.2 | (with_reducible refine Kd.C_alloc ?_ _) | (with_reducible refine Kd.C_drewN ?_ _) | (with_reducible refine Kd.C_drew ?_))); (case side2 => exact (Kd.R_reads' HO104.out).2.1); rintro e w' ⟨rfl, ⟨nd, rfl⟩⟩; refine ⟨_, rfl, ?_⟩))
    go_ret2
    exact ⟨by first | rfl | (simp [errW_none, errW_some] <;> rfl) | (simp only [← hji6, ← hji7]; first | rfl | (simp [errW_none, errW_some] <;> rfl)) | (simp [*, errW_none, errW_some] <;> rfl), by repeat (first | (with_reducible first | exact HB.out | apply below_alloc | apply pw_below_drewN | apply below_drew1) | exact HB.out)⟩
  · replace c5 := Bool.eq_false_iff.mpr c5
    subst c5
    have H1 : (some (0, 1)) = some (r1, r2) := by rw [if_neg (show ¬ (false = true) by decide)] at H; exact H
    clear H
    have H := H1
    clear H1
    simp only [Option.some.injEq, Prod.mk.injEq] at H
    obtain ⟨rfl, rfl⟩ := H
    go_enter Try.func13, Try.ntmps13
    go_wp2_with (first | ((with_reducible refine gate_dst (N := 11) rfl ?_); refine Kd.R_lit (Kd.int .i64) _ 3 ?hg (N := 11) ?hd (xs := ([a0, a1, a2] : List Int)) (inner := [.int .i64 a0, .int .i64 a1, .int .i64 a2]) (ok := fun _ => True) (okp := fun _ => True) ?hr ?hp (fun _ hk => hk) trivial (Below.refl _ _) (Nat.le_refl _) (by simp) ?_; (case hd => rfl); (case hg => rfl); (case hr => first | (go_simp; done) | (go_simp; rfl)); (case hp => exact (Reps.one (show Kd.M (Kd.int .i64) _ _ _ a0 [.int .i64 a0] from rfl) (Reps.one (show Kd.M (Kd.int .i64) _ _ _ a1 [.int .i64 a1] from rfl) (Reps.one (show Kd.M (Kd.int .i64) _ _ _ a2 [.int .i64 a2] from rfl) (Reps.none _ _))))); intro v103 w11 ho12 hb hg_ hnew_; clear hg_ hnew_; (first | rw [← Ny102.out] at ho12 | (simp only [Int.reduceToNat] at ho12; rw [← Ny102.out] at ho12)); have n0_ := Aside0.mk (Kd.R_lower ho12 (below_size (by repeat (first | (with_reducible first | exact HB.out | apply below_alloc | apply pw_below_drewN | apply below_drew1) | exact HB.out)))); have n1_ := Aside0.mk (below_step (by repeat (first | (with_reducible first | exact HB.out | apply below_alloc | apply pw_below_drewN | apply below_drew1) | exact HB.out)) hb); clear HB; have HO104 := n0_; have HB := n1_; clear n0_ n1_; clear hb ho12; obtain ⟨Ao13, co13, eo13⟩ := Kd.R_slice HO104.out; subst eo13) | ((with_reducible refine gate_callee (f := 18) rfl ?_); refine goesL_ (some 12) rfl rfl Try.func18 (by kernel_rfl) rfl #[.slice Ao13 y102.length co13] rfl (by (try simp only [List.map_toArray, List.map_cons, List.map_nil]); first | done | rfl | (simp only [List.length_drop, List.length_take]; rfl)) ?_; (with_reducible refine (phases_areCurrents.calls k _ _ y102 false _ ?side1 ?side2 A4.out).mono ?_); (case side1 => repeat (first | exact (Kd.R_reads' HO104.out).2.2 | (with_reducible refine Kd.C_alloc ?_ _) | (with_reducible refine Kd.C_drewN ?_ _) | (with_reducible refine Kd.C_drew ?_))); (case side2 => exact (Kd.R_reads' HO104.out).2.1); rintro e w' ⟨rfl, ⟨nd, rfl⟩⟩; refine ⟨_, rfl, ?_⟩))
    go_ret2
    exact ⟨by first | rfl | (simp [errW_none, errW_some] <;> rfl) | (simp [*, errW_none, errW_some] <;> rfl), by repeat (first | (with_reducible first | exact HB.out | apply below_alloc | apply pw_below_drewN | apply below_drew1) | exact HB.out)⟩

/-! ### chargeparklaw05_gives: function 17 -/
def chargeparklaw05_gives.f (k : Nat) (a0 : Int) (a1 : Int) (a2 : Int) (a3 : Int) (a4 : Int) : Option (Bool) := (phases_Neutral.f a0 a1 a2).bind fun bt106 => ((phases_Worst.f k a0 a1 a2).bind fun bt108 => (if bt106.2 = 0 then (if bt108.2 = 0 then (if bt106.1 = a3 then (some (bt108.1 == a4)) else (some false)) else (some false)) else (some false)))
theorem chargeparklaw05_gives.mono : ∀ a0 a1 a2 a3 a4 k, LeO (chargeparklaw05_gives.f k a0 a1 a2 a3 a4) (chargeparklaw05_gives.f (k + 1) a0 a1 a2 a3 a4) := by
  intro a0 a1 a2 a3 a4 k
  unfold chargeparklaw05_gives.f
  repeat' first
      | (with_reducible exact phases_Worst.mono _ _ _ _)
      | (with_reducible exact LeO.refl _)
      | (with_reducible exact LeO.none _)
      | (with_reducible refine LeO.ite ?_ ?_)
      | (with_reducible refine LeO.bind ?_ (fun _ => ?_))
      | exact phases_Worst.mono _ _ _ _
      | exact LeO.none _
      | refine LeO.ite ?_ ?_
      | refine LeO.bind ?_ (fun _ => ?_)
set_option maxHeartbeats 8000000 in
set_option maxRecDepth 100000 in
theorem chargeparklaw05_gives.calls (k : Nat) (a0 : Int) (a1 : Int) (a2 : Int) (a3 : Int) (a4 : Int) (r : Bool) (w : World) (h : chargeparklaw05_gives.f k a0 a1 a2 a3 a4 = some r) :
    Calls Try.prog 17 #[.int .i64 a0, .int .i64 a1, .int .i64 a2, .int .i64 a3, .int .i64 a4] w fun e w' => e = .returned (.bool r) ∧ Below w.heap.size w w' := by
  have HB := Aside0.mk (Below.refl w.heap.size w)
  have H : ((phases_Neutral.f a0 a1 a2).bind fun bt106 => ((phases_Worst.f k a0 a1 a2).bind fun bt108 => (if bt106.2 = 0 then (if bt108.2 = 0 then (if bt106.1 = a3 then (some (bt108.1 == a4)) else (some false)) else (some false)) else (some false)))) = some r := h
  clear h
  replace H := Option.bind_eq_some_iff.mp H
  obtain ⟨⟨t106, t107⟩, A60, H⟩ := H
  replace H : ((phases_Worst.f k a0 a1 a2).bind fun bt108 => (if t107 = 0 then (if bt108.2 = 0 then (if t106 = a3 then (some (bt108.1 == a4)) else (some false)) else (some false)) else (some false))) = some r := H
  have A6 := Aside0.mk A60
  clear A60
  replace H := Option.bind_eq_some_iff.mp H
  obtain ⟨⟨t108, t109⟩, A70, H⟩ := H
  replace H : (if t107 = 0 then (if t109 = 0 then (if t106 = a3 then (some (t108 == a4)) else (some false)) else (some false)) else (some false)) = some r := H
  have A7 := Aside0.mk A70
  clear A70
  by_cases c8 : t107 = 0
  · rw [if_pos c8] at H
    have c8b0 : (t107 == 0) = true := beq_iff_eq.mpr c8
    have c8b1 : (t107 != 0) = false := bne_eq_false_iff_eq.mpr c8
    clear c8
    by_cases c9 : t109 = 0
    · rw [if_pos c9] at H
      have c9b0 : (t109 == 0) = true := beq_iff_eq.mpr c9
      have c9b1 : (t109 != 0) = false := bne_eq_false_iff_eq.mpr c9
      clear c9
      by_cases c10 : t106 = a3
      · rw [if_pos c10] at H
        have c10b0 : (t106 == a3) = true := beq_iff_eq.mpr c10
        have c10b1 : (t106 != a3) = false := bne_eq_false_iff_eq.mpr c10
        clear c10
        obtain rfl := Option.some.inj H
        go_enter Try.func17, Try.ntmps17
        go_wp2_with (first | ((with_reducible refine gate_callee (f := 11) rfl ?_); refine goesL_ (some 19) rfl rfl Try.func11 (by kernel_rfl) rfl #[.int .i64 a0, .int .i64 a1, .int .i64 a2] rfl (by (try simp only [List.map_toArray, List.map_cons, List.map_nil]); first | done | rfl | (simp only [List.length_drop, List.length_take]; rfl)) ?_; (with_reducible refine (phases_Neutral.calls a0 a1 a2 t106 t107 _ A6.out).mono ?_); rintro e w11 ⟨rfl, hb⟩; refine ⟨_, rfl, ?_⟩; have n0_ := Aside0.mk (below_step (by repeat (first | (with_reducible first | exact HB.out | apply below_alloc | apply pw_below_drewN | apply below_drew1) | exact HB.out)) hb); clear HB; have HB := n0_; clear n0_; (try clear hb); (try clear hb2); (try clear hk); (try clear hi)) | ((with_reducible refine gate_callee (f := 13) rfl ?_); refine goesL_ (some 26) rfl rfl Try.func13 (by kernel_rfl) rfl #[.int .i64 a0, .int .i64 a1, .int .i64 a2] rfl (by (try simp only [List.map_toArray, List.map_cons, List.map_nil]); first | done | rfl | (simp only [List.length_drop, List.length_take]; rfl)) ?_; (with_reducible refine (phases_Worst.calls k a0 a1 a2 t108 t109 _ A7.out).mono ?_); rintro e w12 ⟨rfl, hb⟩; refine ⟨_, rfl, ?_⟩; have n0_ := Aside0.mk (below_step (by repeat (first | (with_reducible first | exact HB.out | apply below_alloc | apply pw_below_drewN | apply below_drew1) | exact HB.out)) hb); clear HB; have HB := n0_; clear n0_; (try clear hb); (try clear hb2); (try clear hk); (try clear hi)))
        go_ret
        exact ⟨by first | rfl | (simp [errW_none, errW_some] <;> rfl) | (simp [*, errW_none, errW_some] <;> rfl), by repeat (first | (with_reducible first | exact HB.out | apply below_alloc | apply pw_below_drewN | apply below_drew1) | exact HB.out)⟩
      · rw [if_neg c10] at H
        have c10b0 : (t106 == a3) = false := beq_eq_false_iff_ne.mpr c10
        have c10b1 : (t106 != a3) = true := bne_iff_ne.mpr c10
        obtain rfl := Option.some.inj H
        go_enter Try.func17, Try.ntmps17
        go_wp2_with (first | ((with_reducible refine gate_callee (f := 11) rfl ?_); refine goesL_ (some 19) rfl rfl Try.func11 (by kernel_rfl) rfl #[.int .i64 a0, .int .i64 a1, .int .i64 a2] rfl (by (try simp only [List.map_toArray, List.map_cons, List.map_nil]); first | done | rfl | (simp only [List.length_drop, List.length_take]; rfl)) ?_; (with_reducible refine (phases_Neutral.calls a0 a1 a2 t106 t107 _ A6.out).mono ?_); rintro e w13 ⟨rfl, hb⟩; refine ⟨_, rfl, ?_⟩; have n0_ := Aside0.mk (below_step (by repeat (first | (with_reducible first | exact HB.out | apply below_alloc | apply pw_below_drewN | apply below_drew1) | exact HB.out)) hb); clear HB; have HB := n0_; clear n0_; (try clear hb); (try clear hb2); (try clear hk); (try clear hi)) | ((with_reducible refine gate_callee (f := 13) rfl ?_); refine goesL_ (some 26) rfl rfl Try.func13 (by kernel_rfl) rfl #[.int .i64 a0, .int .i64 a1, .int .i64 a2] rfl (by (try simp only [List.map_toArray, List.map_cons, List.map_nil]); first | done | rfl | (simp only [List.length_drop, List.length_take]; rfl)) ?_; (with_reducible refine (phases_Worst.calls k a0 a1 a2 t108 t109 _ A7.out).mono ?_); rintro e w14 ⟨rfl, hb⟩; refine ⟨_, rfl, ?_⟩; have n0_ := Aside0.mk (below_step (by repeat (first | (with_reducible first | exact HB.out | apply below_alloc | apply pw_below_drewN | apply below_drew1) | exact HB.out)) hb); clear HB; have HB := n0_; clear n0_; (try clear hb); (try clear hb2); (try clear hk); (try clear hi)))
        go_ret
        exact ⟨by first | rfl | (simp [errW_none, errW_some] <;> rfl) | (simp [*, errW_none, errW_some] <;> rfl), by repeat (first | (with_reducible first | exact HB.out | apply below_alloc | apply pw_below_drewN | apply below_drew1) | exact HB.out)⟩
    · rw [if_neg c9] at H
      have c9b0 : (t109 == 0) = false := beq_eq_false_iff_ne.mpr c9
      have c9b1 : (t109 != 0) = true := bne_iff_ne.mpr c9
      obtain rfl := Option.some.inj H
      go_enter Try.func17, Try.ntmps17
      go_wp2_with (first | ((with_reducible refine gate_callee (f := 11) rfl ?_); refine goesL_ (some 19) rfl rfl Try.func11 (by kernel_rfl) rfl #[.int .i64 a0, .int .i64 a1, .int .i64 a2] rfl (by (try simp only [List.map_toArray, List.map_cons, List.map_nil]); first | done | rfl | (simp only [List.length_drop, List.length_take]; rfl)) ?_; (with_reducible refine (phases_Neutral.calls a0 a1 a2 t106 t107 _ A6.out).mono ?_); rintro e w15 ⟨rfl, hb⟩; refine ⟨_, rfl, ?_⟩; have n0_ := Aside0.mk (below_step (by repeat (first | (with_reducible first | exact HB.out | apply below_alloc | apply pw_below_drewN | apply below_drew1) | exact HB.out)) hb); clear HB; have HB := n0_; clear n0_; (try clear hb); (try clear hb2); (try clear hk); (try clear hi)) | ((with_reducible refine gate_callee (f := 13) rfl ?_); refine goesL_ (some 26) rfl rfl Try.func13 (by kernel_rfl) rfl #[.int .i64 a0, .int .i64 a1, .int .i64 a2] rfl (by (try simp only [List.map_toArray, List.map_cons, List.map_nil]); first | done | rfl | (simp only [List.length_drop, List.length_take]; rfl)) ?_; (with_reducible refine (phases_Worst.calls k a0 a1 a2 t108 t109 _ A7.out).mono ?_); rintro e w16 ⟨rfl, hb⟩; refine ⟨_, rfl, ?_⟩; have n0_ := Aside0.mk (below_step (by repeat (first | (with_reducible first | exact HB.out | apply below_alloc | apply pw_below_drewN | apply below_drew1) | exact HB.out)) hb); clear HB; have HB := n0_; clear n0_; (try clear hb); (try clear hb2); (try clear hk); (try clear hi)))
      go_ret
      exact ⟨by first | rfl | (simp [errW_none, errW_some] <;> rfl) | (simp [*, errW_none, errW_some] <;> rfl), by repeat (first | (with_reducible first | exact HB.out | apply below_alloc | apply pw_below_drewN | apply below_drew1) | exact HB.out)⟩
  · rw [if_neg c8] at H
    have c8b0 : (t107 == 0) = false := beq_eq_false_iff_ne.mpr c8
    have c8b1 : (t107 != 0) = true := bne_iff_ne.mpr c8
    obtain rfl := Option.some.inj H
    go_enter Try.func17, Try.ntmps17
    go_wp2_with (first | ((with_reducible refine gate_callee (f := 11) rfl ?_); refine goesL_ (some 19) rfl rfl Try.func11 (by kernel_rfl) rfl #[.int .i64 a0, .int .i64 a1, .int .i64 a2] rfl (by (try simp only [List.map_toArray, List.map_cons, List.map_nil]); first | done | rfl | (simp only [List.length_drop, List.length_take]; rfl)) ?_; (with_reducible refine (phases_Neutral.calls a0 a1 a2 t106 t107 _ A6.out).mono ?_); rintro e w17 ⟨rfl, hb⟩; refine ⟨_, rfl, ?_⟩; have n0_ := Aside0.mk (below_step (by repeat (first | (with_reducible first | exact HB.out | apply below_alloc | apply pw_below_drewN | apply below_drew1) | exact HB.out)) hb); clear HB; have HB := n0_; clear n0_; (try clear hb); (try clear hb2); (try clear hk); (try clear hi)) | ((with_reducible refine gate_callee (f := 13) rfl ?_); refine goesL_ (some 26) rfl rfl Try.func13 (by kernel_rfl) rfl #[.int .i64 a0, .int .i64 a1, .int .i64 a2] rfl (by (try simp only [List.map_toArray, List.map_cons, List.map_nil]); first | done | rfl | (simp only [List.length_drop, List.length_take]; rfl)) ?_; (with_reducible refine (phases_Worst.calls k a0 a1 a2 t108 t109 _ A7.out).mono ?_); rintro e w18 ⟨rfl, hb⟩; refine ⟨_, rfl, ?_⟩; have n0_ := Aside0.mk (below_step (by repeat (first | (with_reducible first | exact HB.out | apply below_alloc | apply pw_below_drewN | apply below_drew1) | exact HB.out)) hb); clear HB; have HB := n0_; clear n0_; (try clear hb); (try clear hb2); (try clear hk); (try clear hi)))
    go_ret
    exact ⟨by first | rfl | (simp [errW_none, errW_some] <;> rfl) | (simp [*, errW_none, errW_some] <;> rfl), by repeat (first | (with_reducible first | exact HB.out | apply below_alloc | apply pw_below_drewN | apply below_drew1) | exact HB.out)⟩

end Go.Proofs.Ytihfcnhiknljpaa.Q
