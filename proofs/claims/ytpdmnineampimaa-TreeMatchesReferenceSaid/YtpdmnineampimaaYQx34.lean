import Derived.Test.YtpdmnineampimaaYe
set_option linter.unusedVariables false
set_option linter.unusedSimpArgs false
namespace Go.Proofs.Ytpdmnineampimaa.Q
open Go.RowKit Go.Proofs.YtpdmnineampimaaW.PrintWords Go.Proofs.YtpdmnineampimaaW.PrintLast Go.Proofs.YtpdmnineampimaaW.PrintMore
attribute [local go_sem] max2_int min2_int max_two min_two max_three min_three max_four min_four
def r02_In.l0 : Nat → List ByteArray → ByteArray → Int → Option (Int)
  | 0, _, _, _ => none
  | k + 1, x0, x1, x5 => if x5 < (x0.length : Int) then (if 0 ≤ x5 then (if (rdOf ByteArray.empty x0 x5).toList = x1.toList then (some x5) else (r02_In.l0 k x0 x1 (wrap64 (x5 + 1)))) else (none)) else (some (-1))
def r02_In.f (k : Nat) (l0 : List ByteArray) (a1 : ByteArray) : Option (Int) := r02_In.l0 k l0 a1 0
theorem r02_In.mono_l : ∀ k, (∀ y0 y1 y2, LeO (r02_In.l0 k y0 y1 y2) (r02_In.l0 (k + 1) y0 y1 y2))
  | 0 => fun _ _ _ r h => by simp [r02_In.l0] at h
  | k + 1 => by
    have ih0 := r02_In.mono_l k
    · intro y0 y1 y2
      unfold r02_In.l0
      repeat' first | (with_reducible apply ih0) | (with_reducible exact LeO.refl _) | (with_reducible exact LeO.none _) | (with_reducible refine LeO.ite ?_ ?_) | (with_reducible refine LeO.bind ?_ (fun _ => ?_))
theorem r02_In.mono : ∀ a0 a1 k, LeO (r02_In.f k a0 a1) (r02_In.f (k + 1) a0 a1) := by
  intro a0 a1 k
  have ih0 := r02_In.mono_l k
  unfold r02_In.f
  repeat' first | (with_reducible apply ih0) | (with_reducible exact LeO.refl _) | (with_reducible exact LeO.none _) | (with_reducible refine LeO.ite ?_ ?_) | (with_reducible refine LeO.bind ?_ (fun _ => ?_))
set_option maxHeartbeats 8000000 in
set_option maxRecDepth 100000 in
theorem r02_In.calls (k : Nat) (A0 : Option Addr) (c0 : Nat) (l0 : List ByteArray) (a1 : ByteArray) (r : Int) (w : World) (hr0 : Kd.C Kd.string w A0 l0.length l0) (hc0 : l0.length ≤ c0) (h : r02_In.f k l0 a1 = some r) :
    Calls Try.prog 58 #[.slice A0 l0.length c0, .string a1] w fun e w' => e = .returned (.int .i64 r) ∧ Drawn0 w w' := by
 have HR0 := Aside0.mk hr0
 have HC0 := Aside0.mk hc0
 clear hr0 hc0
 (try unfold r02_In.f at h)
 have H := h
 clear h
 have H' := Aside0.mk H
 clear H
 go_enter Try.func58, Try.ntmps58
 go_wp2
 go_loopg [5] k (fun kq v5 w' => ∃ (x5_1 : Int), v5 = .int .i64 x5_1 ∧ Aside0 (r02_In.l0 kq l0 a1 x5_1 = some r) ∧ Aside0 (kq ≤ k) ∧ Drawn0 w w')
 case atStart => exact ⟨(0), tQ, H', ⟨Nat.le_refl _⟩, by repeat (first | exact Drawn0.refl _ | apply Drawn0.step)⟩
 case round =>
  clear H'
  obtain ⟨x5_1, rfl, HA, HK1, ⟨m1, rfl⟩⟩ := hrel
  cases gk with
  | zero => exact absurd HA.out (by simp [r02_In.l0])
  | succ k1 =>
   have H := HA.out
   clear HA
   simp only [r02_In.l0] at H
   by_cases c3 : x5_1 < (l0.length : Int)
   rotate_left
   ·rw [if_neg c3] at H
    have c3b0 : decide (x5_1 < (l0.length : Int)) = false := decide_eq_false c3
    clear c3
    obtain rfl := Option.some.inj H
    go_wp2
    go_ret
    exact ⟨by first | rfl | (simp; done) | (simp [*]; done), by repeat (first | exact Drawn0.refl _ | apply Drawn0.step)⟩
   rw [if_pos c3] at H
   have c3b0 : decide (x5_1 < (l0.length : Int)) = true := decide_eq_true c3
   clear c3
   by_cases c4 : 0 ≤ x5_1
   rotate_left
   ·rw [if_neg c4] at H
    exact absurd H (by simp)
   rw [if_pos c4] at H
   have c4b0 : decide (0 ≤ x5_1) = true := decide_eq_true c4
   clear c4
   by_cases c5 : (rdOf ByteArray.empty l0 x5_1).toList = a1.toList
   ·rw [if_pos c5] at H
    have c5b0 : ((rdOf ByteArray.empty l0 x5_1).toList == a1.toList) = true := beq_iff_eq.mpr c5
    have c5b1 : ((rdOf ByteArray.empty l0 x5_1).toList != a1.toList) = false := bne_eq_false_iff_eq.mpr c5
    clear c5
    obtain rfl := Option.some.inj H
    have p275 : 0 ≤ (x5_1 : Int) := tD
    have q275 : x5_1 < (l0.length : Int) := tD
    obtain ⟨ad275, e275, hx275_0⟩ := Kd.at_string HR0.out x5_1 p275 q275
    cases e275
    replace p275 := eq_true p275
    replace q275 := eq_true q275
    go_wp2
    go_ret
    exact ⟨by first | rfl | (simp; done) | (simp [*]; done), by repeat (first | exact Drawn0.refl _ | apply Drawn0.step)⟩
   rw [if_neg c5] at H
   have c5b0 : ((rdOf ByteArray.empty l0 x5_1).toList == a1.toList) = false := beq_eq_false_iff_ne.mpr c5
   have c5b1 : ((rdOf ByteArray.empty l0 x5_1).toList != a1.toList) = true := bne_iff_ne.mpr c5
   have H' := Aside0.mk H
   clear H
   have p275 : 0 ≤ (x5_1 : Int) := tD
   have q275 : x5_1 < (l0.length : Int) := tD
   obtain ⟨ad275, e275, hx275_0⟩ := Kd.at_string HR0.out x5_1 p275 q275
   cases e275
   replace p275 := eq_true p275
   replace q275 := eq_true q275
   go_wp2
   go_roundg k1
   case measure => have := HK1.out; omega
   case rel => exact ⟨(wrap64 (x5_1 + 1)), tQ, H', ⟨kO HK1⟩, by repeat (first | exact Drawn0.refl _ | apply Drawn0.step)⟩
def r02_Kinds.f  : Option (List ByteArray) := some (([(⟨#[102, 101, 101, 100, 101, 114]⟩ : ByteArray), (⟨#[99, 97, 98, 108, 101]⟩ : ByteArray), (⟨#[111, 119, 110, 101, 114]⟩ : ByteArray), (⟨#[99, 111, 110, 116, 114, 97, 99, 116]⟩ : ByteArray), (⟨#[99, 104, 97, 114, 103, 101, 114]⟩ : ByteArray), (⟨#[98, 97, 121]⟩ : ByteArray), (⟨#[116, 97, 114, 105, 102, 102]⟩ : ByteArray)] : List ByteArray))
set_option maxHeartbeats 8000000 in
set_option maxRecDepth 100000 in
theorem r02_Kinds.calls  (r : List ByteArray) (w : World) (h : r02_Kinds.f  = some r) :
    Calls Try.prog 59 #[] w fun e w' => ∃ v0_ : Value, e = .returned (v0_) ∧ Kd.R Kd.string 9 w' w.heap.size (fun _ => True) v0_ r ∧ Below w.heap.size w w' := by
 have HB := Aside0.mk (Below.refl w.heap.size w)
 (try unfold r02_Kinds.f at h)
 have H := h
 clear h
 obtain ⟨y276, hy276⟩ : ∃ y_ : List ByteArray, y_ = (([(⟨#[102, 101, 101, 100, 101, 114]⟩ : ByteArray), (⟨#[99, 97, 98, 108, 101]⟩ : ByteArray), (⟨#[111, 119, 110, 101, 114]⟩ : ByteArray), (⟨#[99, 111, 110, 116, 114, 97, 99, 116]⟩ : ByteArray), (⟨#[99, 104, 97, 114, 103, 101, 114]⟩ : ByteArray), (⟨#[98, 97, 121]⟩ : ByteArray), (⟨#[116, 97, 114, 105, 102, 102]⟩ : ByteArray)] : List ByteArray)) := ⟨_, rfl⟩
 replace H : (some y276) = some r := by first | (rw [hy276]; with_reducible exact H) | (have H2_ := (Option.bind_some _ _).symm.trans H; rw [hy276]; with_reducible exact H2_) | (have H2_ := (Option.bind_some _ _).symm.trans H; with_reducible exact H2_) | with_reducible exact H | (rw [hy276]; exact H) | exact H
 have Ny276 := Aside0.mk hy276
 clear hy276
 obtain rfl := Option.some.inj H
 go_enter Try.func59, Try.ntmps59
 go_wp2_with (first | ((with_reducible refine gate_dst (N := 1) rfl ?_); refine Kd.R_lit Kd.string _ 9 ?hg (N := 1) ?hd (xs := ([(⟨#[102, 101, 101, 100, 101, 114]⟩ : ByteArray), (⟨#[99, 97, 98, 108, 101]⟩ : ByteArray), (⟨#[111, 119, 110, 101, 114]⟩ : ByteArray), (⟨#[99, 111, 110, 116, 114, 97, 99, 116]⟩ : ByteArray), (⟨#[99, 104, 97, 114, 103, 101, 114]⟩ : ByteArray), (⟨#[98, 97, 121]⟩ : ByteArray), (⟨#[116, 97, 114, 105, 102, 102]⟩ : ByteArray)] : List ByteArray)) (inner := [.string (⟨#[102, 101, 101, 100, 101, 114]⟩ : ByteArray), .string (⟨#[99, 97, 98, 108, 101]⟩ : ByteArray), .string (⟨#[111, 119, 110, 101, 114]⟩ : ByteArray), .string (⟨#[99, 111, 110, 116, 114, 97, 99, 116]⟩ : ByteArray), .string (⟨#[99, 104, 97, 114, 103, 101, 114]⟩ : ByteArray), .string (⟨#[98, 97, 121]⟩ : ByteArray), .string (⟨#[116, 97, 114, 105, 102, 102]⟩ : ByteArray)]) (ok := fun _ => True) (okp := fun _ => True) ?hr ?hp (fun _ hk => hk) trivial (Below.refl _ _) (Nat.le_refl _) (by simp) ?_; (case hd => rfl); (case hg => rfl); (case hr => first | (go_simp; done) | (go_simp; rfl)); (case hp => exact (Reps.one (show Kd.M Kd.string _ _ _ (⟨#[102, 101, 101, 100, 101, 114]⟩ : ByteArray) [.string (⟨#[102, 101, 101, 100, 101, 114]⟩ : ByteArray)] from rfl) (Reps.one (show Kd.M Kd.string _ _ _ (⟨#[99, 97, 98, 108, 101]⟩ : ByteArray) [.string (⟨#[99, 97, 98, 108, 101]⟩ : ByteArray)] from rfl) (Reps.one (show Kd.M Kd.string _ _ _ (⟨#[111, 119, 110, 101, 114]⟩ : ByteArray) [.string (⟨#[111, 119, 110, 101, 114]⟩ : ByteArray)] from rfl) (Reps.one (show Kd.M Kd.string _ _ _ (⟨#[99, 111, 110, 116, 114, 97, 99, 116]⟩ : ByteArray) [.string (⟨#[99, 111, 110, 116, 114, 97, 99, 116]⟩ : ByteArray)] from rfl) (Reps.one (show Kd.M Kd.string _ _ _ (⟨#[99, 104, 97, 114, 103, 101, 114]⟩ : ByteArray) [.string (⟨#[99, 104, 97, 114, 103, 101, 114]⟩ : ByteArray)] from rfl) (Reps.one (show Kd.M Kd.string _ _ _ (⟨#[98, 97, 121]⟩ : ByteArray) [.string (⟨#[98, 97, 121]⟩ : ByteArray)] from rfl) (Reps.one (show Kd.M Kd.string _ _ _ (⟨#[116, 97, 114, 105, 102, 102]⟩ : ByteArray) [.string (⟨#[116, 97, 114, 105, 102, 102]⟩ : ByteArray)] from rfl) (Reps.none _ _))))))))); intro v277 w1 ho2 hb hg_ hnew_; clear hg_ hnew_; (first | rw [← Ny276.out] at ho2 | (simp only [Int.reduceToNat] at ho2; rw [← Ny276.out] at ho2)); have HO278 := Aside0.mk (Kd.R_lower ho2 (below_size (kB HB))); replace HB := bS (kB HB) hb; clear hb ho2))
 go_ret
 exact ⟨_, tE, by (with_reducible repeat (first | apply Kd.R_alloc | apply Kd.R_drewN | apply Kd.R_drew)); exact HO278.out, kB HB⟩
def r02_Attrs.f  : Option (List ByteArray) := some (([(⟨#[108, 105, 109, 105, 116]⟩ : ByteArray), (⟨#[110, 101, 117, 116, 114, 97, 108]⟩ : ByteArray), (⟨#[102, 117, 115, 101]⟩ : ByteArray), (⟨#[116, 104, 101, 114, 109, 97, 108]⟩ : ByteArray), (⟨#[102, 114, 111, 109]⟩ : ByteArray), (⟨#[97, 116]⟩ : ByteArray), (⟨#[112, 104, 97, 115, 101, 115]⟩ : ByteArray), (⟨#[97, 109, 112, 115]⟩ : ByteArray), (⟨#[102, 97, 108, 108, 98, 97, 99, 107]⟩ : ByteArray), (⟨#[111, 119, 110, 101, 114]⟩ : ByteArray), (⟨#[99, 97, 114, 100]⟩ : ByteArray), (⟨#[114, 97, 110, 107]⟩ : ByteArray), (⟨#[99, 104, 97, 114, 103, 101, 114]⟩ : ByteArray)] : List ByteArray))
set_option maxHeartbeats 8000000 in
set_option maxRecDepth 100000 in
theorem r02_Attrs.calls  (r : List ByteArray) (w : World) (h : r02_Attrs.f  = some r) :
    Calls Try.prog 60 #[] w fun e w' => ∃ v0_ : Value, e = .returned (v0_) ∧ Kd.R Kd.string 9 w' w.heap.size (fun _ => True) v0_ r ∧ Below w.heap.size w w' := by
 have HB := Aside0.mk (Below.refl w.heap.size w)
 (try unfold r02_Attrs.f at h)
 have H := h
 clear h
 obtain ⟨y279, hy279⟩ : ∃ y_ : List ByteArray, y_ = (([(⟨#[108, 105, 109, 105, 116]⟩ : ByteArray), (⟨#[110, 101, 117, 116, 114, 97, 108]⟩ : ByteArray), (⟨#[102, 117, 115, 101]⟩ : ByteArray), (⟨#[116, 104, 101, 114, 109, 97, 108]⟩ : ByteArray), (⟨#[102, 114, 111, 109]⟩ : ByteArray), (⟨#[97, 116]⟩ : ByteArray), (⟨#[112, 104, 97, 115, 101, 115]⟩ : ByteArray), (⟨#[97, 109, 112, 115]⟩ : ByteArray), (⟨#[102, 97, 108, 108, 98, 97, 99, 107]⟩ : ByteArray), (⟨#[111, 119, 110, 101, 114]⟩ : ByteArray), (⟨#[99, 97, 114, 100]⟩ : ByteArray), (⟨#[114, 97, 110, 107]⟩ : ByteArray), (⟨#[99, 104, 97, 114, 103, 101, 114]⟩ : ByteArray)] : List ByteArray)) := ⟨_, rfl⟩
 replace H : (some y279) = some r := by first | (rw [hy279]; with_reducible exact H) | (have H2_ := (Option.bind_some _ _).symm.trans H; rw [hy279]; with_reducible exact H2_) | (have H2_ := (Option.bind_some _ _).symm.trans H; with_reducible exact H2_) | with_reducible exact H | (rw [hy279]; exact H) | exact H
 have Ny279 := Aside0.mk hy279
 clear hy279
 obtain rfl := Option.some.inj H
 go_enter Try.func60, Try.ntmps60
 go_wp2_with (first | ((with_reducible refine gate_dst (N := 1) rfl ?_); refine Kd.R_lit Kd.string _ 9 ?hg (N := 1) ?hd (xs := ([(⟨#[108, 105, 109, 105, 116]⟩ : ByteArray), (⟨#[110, 101, 117, 116, 114, 97, 108]⟩ : ByteArray), (⟨#[102, 117, 115, 101]⟩ : ByteArray), (⟨#[116, 104, 101, 114, 109, 97, 108]⟩ : ByteArray), (⟨#[102, 114, 111, 109]⟩ : ByteArray), (⟨#[97, 116]⟩ : ByteArray), (⟨#[112, 104, 97, 115, 101, 115]⟩ : ByteArray), (⟨#[97, 109, 112, 115]⟩ : ByteArray), (⟨#[102, 97, 108, 108, 98, 97, 99, 107]⟩ : ByteArray), (⟨#[111, 119, 110, 101, 114]⟩ : ByteArray), (⟨#[99, 97, 114, 100]⟩ : ByteArray), (⟨#[114, 97, 110, 107]⟩ : ByteArray), (⟨#[99, 104, 97, 114, 103, 101, 114]⟩ : ByteArray)] : List ByteArray)) (inner := [.string (⟨#[108, 105, 109, 105, 116]⟩ : ByteArray), .string (⟨#[110, 101, 117, 116, 114, 97, 108]⟩ : ByteArray), .string (⟨#[102, 117, 115, 101]⟩ : ByteArray), .string (⟨#[116, 104, 101, 114, 109, 97, 108]⟩ : ByteArray), .string (⟨#[102, 114, 111, 109]⟩ : ByteArray), .string (⟨#[97, 116]⟩ : ByteArray), .string (⟨#[112, 104, 97, 115, 101, 115]⟩ : ByteArray), .string (⟨#[97, 109, 112, 115]⟩ : ByteArray), .string (⟨#[102, 97, 108, 108, 98, 97, 99, 107]⟩ : ByteArray), .string (⟨#[111, 119, 110, 101, 114]⟩ : ByteArray), .string (⟨#[99, 97, 114, 100]⟩ : ByteArray), .string (⟨#[114, 97, 110, 107]⟩ : ByteArray), .string (⟨#[99, 104, 97, 114, 103, 101, 114]⟩ : ByteArray)]) (ok := fun _ => True) (okp := fun _ => True) ?hr ?hp (fun _ hk => hk) trivial (Below.refl _ _) (Nat.le_refl _) (by simp) ?_; (case hd => rfl); (case hg => rfl); (case hr => first | (go_simp; done) | (go_simp; rfl)); (case hp => exact (Reps.one (show Kd.M Kd.string _ _ _ (⟨#[108, 105, 109, 105, 116]⟩ : ByteArray) [.string (⟨#[108, 105, 109, 105, 116]⟩ : ByteArray)] from rfl) (Reps.one (show Kd.M Kd.string _ _ _ (⟨#[110, 101, 117, 116, 114, 97, 108]⟩ : ByteArray) [.string (⟨#[110, 101, 117, 116, 114, 97, 108]⟩ : ByteArray)] from rfl) (Reps.one (show Kd.M Kd.string _ _ _ (⟨#[102, 117, 115, 101]⟩ : ByteArray) [.string (⟨#[102, 117, 115, 101]⟩ : ByteArray)] from rfl) (Reps.one (show Kd.M Kd.string _ _ _ (⟨#[116, 104, 101, 114, 109, 97, 108]⟩ : ByteArray) [.string (⟨#[116, 104, 101, 114, 109, 97, 108]⟩ : ByteArray)] from rfl) (Reps.one (show Kd.M Kd.string _ _ _ (⟨#[102, 114, 111, 109]⟩ : ByteArray) [.string (⟨#[102, 114, 111, 109]⟩ : ByteArray)] from rfl) (Reps.one (show Kd.M Kd.string _ _ _ (⟨#[97, 116]⟩ : ByteArray) [.string (⟨#[97, 116]⟩ : ByteArray)] from rfl) (Reps.one (show Kd.M Kd.string _ _ _ (⟨#[112, 104, 97, 115, 101, 115]⟩ : ByteArray) [.string (⟨#[112, 104, 97, 115, 101, 115]⟩ : ByteArray)] from rfl) (Reps.one (show Kd.M Kd.string _ _ _ (⟨#[97, 109, 112, 115]⟩ : ByteArray) [.string (⟨#[97, 109, 112, 115]⟩ : ByteArray)] from rfl) (Reps.one (show Kd.M Kd.string _ _ _ (⟨#[102, 97, 108, 108, 98, 97, 99, 107]⟩ : ByteArray) [.string (⟨#[102, 97, 108, 108, 98, 97, 99, 107]⟩ : ByteArray)] from rfl) (Reps.one (show Kd.M Kd.string _ _ _ (⟨#[111, 119, 110, 101, 114]⟩ : ByteArray) [.string (⟨#[111, 119, 110, 101, 114]⟩ : ByteArray)] from rfl) (Reps.one (show Kd.M Kd.string _ _ _ (⟨#[99, 97, 114, 100]⟩ : ByteArray) [.string (⟨#[99, 97, 114, 100]⟩ : ByteArray)] from rfl) (Reps.one (show Kd.M Kd.string _ _ _ (⟨#[114, 97, 110, 107]⟩ : ByteArray) [.string (⟨#[114, 97, 110, 107]⟩ : ByteArray)] from rfl) (Reps.one (show Kd.M Kd.string _ _ _ (⟨#[99, 104, 97, 114, 103, 101, 114]⟩ : ByteArray) [.string (⟨#[99, 104, 97, 114, 103, 101, 114]⟩ : ByteArray)] from rfl) (Reps.none _ _))))))))))))))); intro v280 w1 ho2 hb hg_ hnew_; clear hg_ hnew_; (first | rw [← Ny279.out] at ho2 | (simp only [Int.reduceToNat] at ho2; rw [← Ny279.out] at ho2)); have HO281 := Aside0.mk (Kd.R_lower ho2 (below_size (kB HB))); replace HB := bS (kB HB) hb; clear hb ho2))
 go_ret
 exact ⟨_, tE, by (with_reducible repeat (first | apply Kd.R_alloc | apply Kd.R_drewN | apply Kd.R_drew)); exact HO281.out, kB HB⟩
def r02_Articles.f  : Option (List ByteArray) := some (([(⟨#[115, 116, 97, 114, 116]⟩ : ByteArray), (⟨#[101, 110, 101, 114, 103, 121]⟩ : ByteArray), (⟨#[116, 105, 109, 101]⟩ : ByteArray), (⟨#[105, 100, 108, 101]⟩ : ByteArray), (⟨#[99, 97, 112]⟩ : ByteArray), (⟨#[116, 97, 120]⟩ : ByteArray)] : List ByteArray))
set_option maxHeartbeats 8000000 in
set_option maxRecDepth 100000 in
theorem r02_Articles.calls  (r : List ByteArray) (w : World) (h : r02_Articles.f  = some r) :
    Calls Try.prog 61 #[] w fun e w' => ∃ v0_ : Value, e = .returned (v0_) ∧ Kd.R Kd.string 9 w' w.heap.size (fun _ => True) v0_ r ∧ Below w.heap.size w w' := by
 have HB := Aside0.mk (Below.refl w.heap.size w)
 (try unfold r02_Articles.f at h)
 have H := h
 clear h
 obtain ⟨y282, hy282⟩ : ∃ y_ : List ByteArray, y_ = (([(⟨#[115, 116, 97, 114, 116]⟩ : ByteArray), (⟨#[101, 110, 101, 114, 103, 121]⟩ : ByteArray), (⟨#[116, 105, 109, 101]⟩ : ByteArray), (⟨#[105, 100, 108, 101]⟩ : ByteArray), (⟨#[99, 97, 112]⟩ : ByteArray), (⟨#[116, 97, 120]⟩ : ByteArray)] : List ByteArray)) := ⟨_, rfl⟩
 replace H : (some y282) = some r := by first | (rw [hy282]; with_reducible exact H) | (have H2_ := (Option.bind_some _ _).symm.trans H; rw [hy282]; with_reducible exact H2_) | (have H2_ := (Option.bind_some _ _).symm.trans H; with_reducible exact H2_) | with_reducible exact H | (rw [hy282]; exact H) | exact H
 have Ny282 := Aside0.mk hy282
 clear hy282
 obtain rfl := Option.some.inj H
 go_enter Try.func61, Try.ntmps61
 go_wp2_with (first | ((with_reducible refine gate_dst (N := 1) rfl ?_); refine Kd.R_lit Kd.string _ 9 ?hg (N := 1) ?hd (xs := ([(⟨#[115, 116, 97, 114, 116]⟩ : ByteArray), (⟨#[101, 110, 101, 114, 103, 121]⟩ : ByteArray), (⟨#[116, 105, 109, 101]⟩ : ByteArray), (⟨#[105, 100, 108, 101]⟩ : ByteArray), (⟨#[99, 97, 112]⟩ : ByteArray), (⟨#[116, 97, 120]⟩ : ByteArray)] : List ByteArray)) (inner := [.string (⟨#[115, 116, 97, 114, 116]⟩ : ByteArray), .string (⟨#[101, 110, 101, 114, 103, 121]⟩ : ByteArray), .string (⟨#[116, 105, 109, 101]⟩ : ByteArray), .string (⟨#[105, 100, 108, 101]⟩ : ByteArray), .string (⟨#[99, 97, 112]⟩ : ByteArray), .string (⟨#[116, 97, 120]⟩ : ByteArray)]) (ok := fun _ => True) (okp := fun _ => True) ?hr ?hp (fun _ hk => hk) trivial (Below.refl _ _) (Nat.le_refl _) (by simp) ?_; (case hd => rfl); (case hg => rfl); (case hr => first | (go_simp; done) | (go_simp; rfl)); (case hp => exact (Reps.one (show Kd.M Kd.string _ _ _ (⟨#[115, 116, 97, 114, 116]⟩ : ByteArray) [.string (⟨#[115, 116, 97, 114, 116]⟩ : ByteArray)] from rfl) (Reps.one (show Kd.M Kd.string _ _ _ (⟨#[101, 110, 101, 114, 103, 121]⟩ : ByteArray) [.string (⟨#[101, 110, 101, 114, 103, 121]⟩ : ByteArray)] from rfl) (Reps.one (show Kd.M Kd.string _ _ _ (⟨#[116, 105, 109, 101]⟩ : ByteArray) [.string (⟨#[116, 105, 109, 101]⟩ : ByteArray)] from rfl) (Reps.one (show Kd.M Kd.string _ _ _ (⟨#[105, 100, 108, 101]⟩ : ByteArray) [.string (⟨#[105, 100, 108, 101]⟩ : ByteArray)] from rfl) (Reps.one (show Kd.M Kd.string _ _ _ (⟨#[99, 97, 112]⟩ : ByteArray) [.string (⟨#[99, 97, 112]⟩ : ByteArray)] from rfl) (Reps.one (show Kd.M Kd.string _ _ _ (⟨#[116, 97, 120]⟩ : ByteArray) [.string (⟨#[116, 97, 120]⟩ : ByteArray)] from rfl) (Reps.none _ _)))))))); intro v283 w1 ho2 hb hg_ hnew_; clear hg_ hnew_; (first | rw [← Ny282.out] at ho2 | (simp only [Int.reduceToNat] at ho2; rw [← Ny282.out] at ho2)); have HO284 := Aside0.mk (Kd.R_lower ho2 (below_size (kB HB))); replace HB := bS (kB HB) hb; clear hb ho2))
 go_ret
 exact ⟨_, tE, by (with_reducible repeat (first | apply Kd.R_alloc | apply Kd.R_drewN | apply Kd.R_drew)); exact HO284.out, kB HB⟩
end Go.Proofs.Ytpdmnineampimaa.Q
