import Derived.Test.YtpdmnineampimaaYe
import Derived.Test.YtpdmnineampimaaYQx36
import Derived.Test.YtpdmnineampimaaYQx37
set_option linter.unusedVariables false
set_option linter.unusedSimpArgs false
namespace Go.Proofs.Ytpdmnineampimaa.Q
open Go.RowKit Go.Proofs.YtpdmnineampimaaW.PrintWords Go.Proofs.YtpdmnineampimaaW.PrintLast Go.Proofs.YtpdmnineampimaaW.PrintMore
attribute [local go_sem] max2_int min2_int max_two min_two max_three min_three max_four min_four
mutual
def r04_names.l0 : Nat → List ByteArray → Int → List (S48) → List (S62) → List (S84) → List (S42) → List (S87) → Option (Bool)
  | 0, _, _, _, _, _, _, _ => none
  | k + 1, x3, x4, x306000, x306001, x306002, x306003, x306004 => if x4 < (x306000.length : Int) then (if 0 ≤ x4 then (if x3.length < 8796093022208 then (r04_names.l0 k (x3 ++ [(rd_T48 x306000 x4).f0]) (wrap64 (x4 + 1)) x306000 x306001 x306002 x306003 x306004) else (none)) else (none)) else (r04_names.l1 k x3 0 x306000 x306001 x306002 x306003 x306004)
def r04_names.l1 : Nat → List ByteArray → Int → List (S48) → List (S62) → List (S84) → List (S42) → List (S87) → Option (Bool)
  | 0, _, _, _, _, _, _, _ => none
  | k + 1, x3, x5, x306000, x306001, x306002, x306003, x306004 => if x5 < (x306001.length : Int) then (if 0 ≤ x5 then (if x3.length < 8796093022208 then (r04_names.l1 k (x3 ++ [(rd_T62 x306001 x5).f0]) (wrap64 (x5 + 1)) x306000 x306001 x306002 x306003 x306004) else (none)) else (none)) else (r04_names.l2 k x3 0 x306000 x306001 x306002 x306003 x306004)
def r04_names.l2 : Nat → List ByteArray → Int → List (S48) → List (S62) → List (S84) → List (S42) → List (S87) → Option (Bool)
  | 0, _, _, _, _, _, _, _ => none
  | k + 1, x3, x6, x306000, x306001, x306002, x306003, x306004 => if x6 < (x306002.length : Int) then (if 0 ≤ x6 then (if x3.length < 8796093022208 then (r04_names.l2 k (x3 ++ [(rd_T84 x306002 x6).f0]) (wrap64 (x6 + 1)) x306000 x306001 x306002 x306003 x306004) else (none)) else (none)) else (r04_names.l3 k x3 0 x306000 x306001 x306002 x306003 x306004)
def r04_names.l3 : Nat → List ByteArray → Int → List (S48) → List (S62) → List (S84) → List (S42) → List (S87) → Option (Bool)
  | 0, _, _, _, _, _, _, _ => none
  | k + 1, x3, x7, x306000, x306001, x306002, x306003, x306004 => if x7 < (x306003.length : Int) then (if 0 ≤ x7 then (if x3.length < 8796093022208 then (r04_names.l3 k (x3 ++ [(rd_T42 x306003 x7).f0]) (wrap64 (x7 + 1)) x306000 x306001 x306002 x306003 x306004) else (none)) else (none)) else (r04_names.l4 k x3 0 x306000 x306001 x306002 x306003 x306004)
def r04_names.l4 : Nat → List ByteArray → Int → List (S48) → List (S62) → List (S84) → List (S42) → List (S87) → Option (Bool)
  | 0, _, _, _, _, _, _, _ => none
  | k + 1, x3, x8, x306000, x306001, x306002, x306003, x306004 => if x8 < (x306004.length : Int) then (if 0 ≤ x8 then (if x3.length < 8796093022208 then (r04_names.l4 k (x3 ++ [(rd_T87 x306004 x8).f0]) (wrap64 (x8 + 1)) x306000 x306001 x306002 x306003 x306004) else (none)) else (none)) else (r04_names.l5 k x3 0)
def r04_names.l5 : Nat → List ByteArray → Int → Option (Bool)
  | 0, _, _ => none
  | k + 1, x3, x9 => if x9 < (x3.length : Int) then (if 0 ≤ x9 then ((r02_Name.f k (rdOf ByteArray.empty x3 x9)).bind fun t327 => (if t327 = true then (if x9 ≤ (x3.length : Int) then ((r04_has.f k (x3.take (x9 : Int).toNat) (rdOf ByteArray.empty x3 x9)).bind fun t333 => (if t333 = true then (some false) else (r04_names.l5 k x3 (wrap64 (x9 + 1))))) else (none)) else (some false))) else (none)) else (some true)
end
def r04_names.f (k : Nat) (l0_0 : List (S48)) (l0_1 : List (S62)) (l0_2 : List (S84)) (l0_3 : List (S42)) (l0_4 : List (S87)) : Option (Bool) := r04_names.l0 k ([] : List ByteArray) 0 l0_0 l0_1 l0_2 l0_3 l0_4
theorem r04_names.mono_l : ∀ k, (∀ y0 y1 y2 y3 y4 y5 y6, LeO (r04_names.l0 k y0 y1 y2 y3 y4 y5 y6) (r04_names.l0 (k + 1) y0 y1 y2 y3 y4 y5 y6)) ∧ (∀ y0 y1 y2 y3 y4 y5 y6, LeO (r04_names.l1 k y0 y1 y2 y3 y4 y5 y6) (r04_names.l1 (k + 1) y0 y1 y2 y3 y4 y5 y6)) ∧ (∀ y0 y1 y2 y3 y4 y5 y6, LeO (r04_names.l2 k y0 y1 y2 y3 y4 y5 y6) (r04_names.l2 (k + 1) y0 y1 y2 y3 y4 y5 y6)) ∧ (∀ y0 y1 y2 y3 y4 y5 y6, LeO (r04_names.l3 k y0 y1 y2 y3 y4 y5 y6) (r04_names.l3 (k + 1) y0 y1 y2 y3 y4 y5 y6)) ∧ (∀ y0 y1 y2 y3 y4 y5 y6, LeO (r04_names.l4 k y0 y1 y2 y3 y4 y5 y6) (r04_names.l4 (k + 1) y0 y1 y2 y3 y4 y5 y6)) ∧ (∀ y0 y1, LeO (r04_names.l5 k y0 y1) (r04_names.l5 (k + 1) y0 y1))
  | 0 => ⟨fun _ _ _ _ _ _ _ r h => by simp [r04_names.l0] at h, fun _ _ _ _ _ _ _ r h => by simp [r04_names.l1] at h, fun _ _ _ _ _ _ _ r h => by simp [r04_names.l2] at h, fun _ _ _ _ _ _ _ r h => by simp [r04_names.l3] at h, fun _ _ _ _ _ _ _ r h => by simp [r04_names.l4] at h, fun _ _ r h => by simp [r04_names.l5] at h⟩
  | k + 1 => by
    obtain ⟨ih0, ih1, ih2, ih3, ih4, ih5⟩ := r04_names.mono_l k
    refine ⟨?_, ?_, ?_, ?_, ?_, ?_⟩
    · intro y0 y1 y2 y3 y4 y5 y6
      unfold r04_names.l0
      repeat' first | (with_reducible apply ih0) | (with_reducible apply ih1) | (with_reducible apply ih2) | (with_reducible apply ih3) | (with_reducible apply ih4) | (with_reducible apply ih5) | (with_reducible exact r02_Name.mono _ _) | (with_reducible exact r04_has.mono _ _ _) | (with_reducible exact LeO.refl _) | (with_reducible exact LeO.none _) | (with_reducible refine LeO.ite ?_ ?_) | (with_reducible refine LeO.bind ?_ (fun _ => ?_))
    · intro y0 y1 y2 y3 y4 y5 y6
      unfold r04_names.l1
      repeat' first | (with_reducible apply ih0) | (with_reducible apply ih1) | (with_reducible apply ih2) | (with_reducible apply ih3) | (with_reducible apply ih4) | (with_reducible apply ih5) | (with_reducible exact r02_Name.mono _ _) | (with_reducible exact r04_has.mono _ _ _) | (with_reducible exact LeO.refl _) | (with_reducible exact LeO.none _) | (with_reducible refine LeO.ite ?_ ?_) | (with_reducible refine LeO.bind ?_ (fun _ => ?_))
    · intro y0 y1 y2 y3 y4 y5 y6
      unfold r04_names.l2
      repeat' first | (with_reducible apply ih0) | (with_reducible apply ih1) | (with_reducible apply ih2) | (with_reducible apply ih3) | (with_reducible apply ih4) | (with_reducible apply ih5) | (with_reducible exact r02_Name.mono _ _) | (with_reducible exact r04_has.mono _ _ _) | (with_reducible exact LeO.refl _) | (with_reducible exact LeO.none _) | (with_reducible refine LeO.ite ?_ ?_) | (with_reducible refine LeO.bind ?_ (fun _ => ?_))
    · intro y0 y1 y2 y3 y4 y5 y6
      unfold r04_names.l3
      repeat' first | (with_reducible apply ih0) | (with_reducible apply ih1) | (with_reducible apply ih2) | (with_reducible apply ih3) | (with_reducible apply ih4) | (with_reducible apply ih5) | (with_reducible exact r02_Name.mono _ _) | (with_reducible exact r04_has.mono _ _ _) | (with_reducible exact LeO.refl _) | (with_reducible exact LeO.none _) | (with_reducible refine LeO.ite ?_ ?_) | (with_reducible refine LeO.bind ?_ (fun _ => ?_))
    · intro y0 y1 y2 y3 y4 y5 y6
      unfold r04_names.l4
      repeat' first | (with_reducible apply ih0) | (with_reducible apply ih1) | (with_reducible apply ih2) | (with_reducible apply ih3) | (with_reducible apply ih4) | (with_reducible apply ih5) | (with_reducible exact r02_Name.mono _ _) | (with_reducible exact r04_has.mono _ _ _) | (with_reducible exact LeO.refl _) | (with_reducible exact LeO.none _) | (with_reducible refine LeO.ite ?_ ?_) | (with_reducible refine LeO.bind ?_ (fun _ => ?_))
    · intro y0 y1
      unfold r04_names.l5
      repeat' first | (with_reducible apply ih0) | (with_reducible apply ih1) | (with_reducible apply ih2) | (with_reducible apply ih3) | (with_reducible apply ih4) | (with_reducible apply ih5) | (with_reducible exact r02_Name.mono _ _) | (with_reducible exact r04_has.mono _ _ _) | (with_reducible exact LeO.refl _) | (with_reducible exact LeO.none _) | (with_reducible refine LeO.ite ?_ ?_) | (with_reducible refine LeO.bind ?_ (fun _ => ?_))
theorem r04_names.mono : ∀ a0 a1 a2 a3 a4 k, LeO (r04_names.f k a0 a1 a2 a3 a4) (r04_names.f (k + 1) a0 a1 a2 a3 a4) := by
  intro a0 a1 a2 a3 a4 k
  obtain ⟨ih0, ih1, ih2, ih3, ih4, ih5⟩ := r04_names.mono_l k
  unfold r04_names.f
  repeat' first | (with_reducible apply ih0) | (with_reducible apply ih1) | (with_reducible apply ih2) | (with_reducible apply ih3) | (with_reducible apply ih4) | (with_reducible apply ih5) | (with_reducible exact r02_Name.mono _ _) | (with_reducible exact r04_has.mono _ _ _) | (with_reducible exact LeO.refl _) | (with_reducible exact LeO.none _) | (with_reducible refine LeO.ite ?_ ?_) | (with_reducible refine LeO.bind ?_ (fun _ => ?_))
def r04_names.T25 : Bool × List (List Nat × List Nat) := (true, [([], []), ([], []), ([0, 1], [0, 1]), ([2], [2]), ([3], [3]), ([4], [4]), ([5, 4], [5]), ([6], [6]), ([6], [6]), ([7, 8, 6], [6, 7, 8]), ([6], [6]), ([6], [6]), ([10, 11, 6], [6, 10, 11]), ([12, 6], [6, 12]), ([9, 13, 6, 6], [6, 9, 13]), ([6, 14], [6, 14])])
def r04_names.B25 : List Nat := [0, 0, 3, 7, 15, 31, 63, 127, 127, 511, 127, 127, 3199, 7295, 16383, 32767]
theorem r04_names.tab25 : rtab .any (opsOf Try.f47 25) = r04_names.T25 := by kernel_rfl
theorem r04_names.bits25 : waitsOk r04_names.T25.2 r04_names.B25 = true := by kernel_rfl
set_option maxHeartbeats 8000000 in
set_option maxRecDepth 100000 in
theorem r04_names.calls (k : Nat) (A0_0 : Option Addr) (c0_0 : Nat) (l0_0 : List (S48)) (A0_1 : Option Addr) (c0_1 : Nat) (l0_1 : List (S62)) (A0_2 : Option Addr) (c0_2 : Nat) (l0_2 : List (S84)) (A0_3 : Option Addr) (c0_3 : Nat) (l0_3 : List (S42)) (A0_4 : Option Addr) (c0_4 : Nat) (l0_4 : List (S87)) (r : Bool) (w : World) (hr0_0 : Kd.C k48 w A0_0 l0_0.length l0_0) (hc0_0 : l0_0.length ≤ c0_0) (hr0_1 : Kd.C k62 w A0_1 l0_1.length l0_1) (hc0_1 : l0_1.length ≤ c0_1) (hr0_2 : Kd.C k84 w A0_2 l0_2.length l0_2) (hc0_2 : l0_2.length ≤ c0_2) (hr0_3 : Kd.C k42 w A0_3 l0_3.length l0_3) (hc0_3 : l0_3.length ≤ c0_3) (hr0_4 : Kd.C k87 w A0_4 l0_4.length l0_4) (hc0_4 : l0_4.length ≤ c0_4) (h : r04_names.f k l0_0 l0_1 l0_2 l0_3 l0_4 = some r) :
    Calls Try.prog 47 #[.agg #[.slice A0_0 l0_0.length c0_0, .slice A0_1 l0_1.length c0_1, .slice A0_2 l0_2.length c0_2, .slice A0_3 l0_3.length c0_3, .slice A0_4 l0_4.length c0_4]] w fun e w' => e = .returned (.bool r) ∧ Below w.heap.size w w' := by
 have hu28 := Try.underlying28
 have HR0_0 := Aside0.mk hr0_0
 have HC0_0 := Aside0.mk hc0_0
 clear hr0_0 hc0_0
 have HR0_1 := Aside0.mk hr0_1
 have HC0_1 := Aside0.mk hc0_1
 clear hr0_1 hc0_1
 have HR0_2 := Aside0.mk hr0_2
 have HC0_2 := Aside0.mk hc0_2
 clear hr0_2 hc0_2
 have HR0_3 := Aside0.mk hr0_3
 have HC0_3 := Aside0.mk hc0_3
 clear hr0_3 hc0_3
 have HR0_4 := Aside0.mk hr0_4
 have HC0_4 := Aside0.mk hc0_4
 clear hr0_4 hc0_4
 have HB := Aside0.mk (Below.refl w.heap.size w)
 (try unfold r04_names.f at h)
 have H := h
 clear h
 have H' := Aside0.mk H
 clear H
 go_enter Try.func47, Try.ntmps47
 go_wp2_with (first | ((with_reducible refine gate_dst (N := 1) rfl ?_); refine bE 1 28 #[.slice A0_0 l0_0.length c0_0, .slice A0_1 l0_1.length c0_1, .slice A0_2 l0_2.length c0_2, .slice A0_3 l0_3.length c0_3, .slice A0_4 l0_4.length c0_4] ?_; intro gb305 hg w2 hbox hb; have BK305 := Aside0.mk hbox; have GW305 := gE hg (kB HB); have GE305 := gE hg (kB HB); replace HB := bS (kB HB) hb; clear hb hbox hg))
 go_loopg [3, 4] k (fun kq v3 v4 w' => ∃ (x3_1 : List ByteArray) (x4_1 : Int), v4 = .int .i64 x4_1 ∧ Aside0 (r04_names.l0 kq x3_1 x4_1 l0_0 l0_1 l0_2 l0_3 l0_4 = some r) ∧ Aside0 (kq ≤ k) ∧ Aside0 (Kd.R Kd.string 9 w' w.heap.size (fun _ => True) v3 x3_1) ∧ Aside0 (w'.heap[gb305]? = some (.cells #[(.slice A0_0 l0_0.length c0_0), (.slice A0_1 l0_1.length c0_1), (.slice A0_2 l0_2.length c0_2), (.slice A0_3 l0_3.length c0_3), (.slice A0_4 l0_4.length c0_4)] 28 (0, 0))) ∧ Aside0 (Below w.heap.size w w'))
 case atStart => exact ⟨(([] : List ByteArray)), (0), tQ, H', ⟨Nat.le_refl _⟩, ⟨by first | exact Kd.R_nil _ _ _ _ _ | exact Kd.N_nil _ _ _ _ _ | exact Kd.V_nil _ _ _ _ _ | exact Kd.Q_nil _ _ _ _ _ | exact Kd.S_nil _ _ _ _ _⟩, ⟨kK BK305⟩, ⟨kB1 HB GE305⟩⟩
 case round =>
  clear H'
  obtain ⟨x3_1, x4_1, rfl, HA, HK1, HO_3, BK305, HB⟩ := hrel
  cases gk with
  | zero => exact absurd HA.out (by simp [r04_names.l0])
  | succ k1 =>
   have H := HA.out
   clear HA
   simp only [r04_names.l0] at H
   by_cases c3 : x4_1 < (l0_0.length : Int)
   ·rw [if_pos c3] at H
    have c3b0 : decide (x4_1 < (l0_0.length : Int)) = true := decide_eq_true c3
    clear c3
    by_cases c4 : 0 ≤ x4_1
    rotate_left
    ·rw [if_neg c4] at H
     exact absurd H (by simp)
    rw [if_pos c4] at H
    have c4b0 : decide (0 ≤ x4_1) = true := decide_eq_true c4
    clear c4
    by_cases c5 : x3_1.length < 8796093022208
    rotate_left
    ·rw [if_neg c5] at H
     exact absurd H (by simp)
    rw [if_pos c5] at H
    have LMc5 := Aside0.mk c5
    clear c5
    obtain ⟨y307, hy307⟩ : ∃ y_ : List ByteArray, y_ = (x3_1 ++ [(rd_T48 l0_0 x4_1).f0]) := ⟨_, rfl⟩
    replace H : (r04_names.l0 k1 y307 (wrap64 (x4_1 + 1)) l0_0 l0_1 l0_2 l0_3 l0_4) = some r := by first | (rw [hy307]; with_reducible exact H) | (have H2_ := (Option.bind_some _ _).symm.trans H; rw [hy307]; with_reducible exact H2_) | (have H2_ := (Option.bind_some _ _).symm.trans H; with_reducible exact H2_) | with_reducible exact H | (rw [hy307]; exact H) | exact H
    have Ny307 := Aside0.mk hy307
    clear hy307
    have H' := Aside0.mk H
    clear H
    obtain ⟨⟨_,_,_,_,_⟩,_,_,_,_,_⟩ := bx5 BK305
    have p306 : 0 ≤ (x4_1 : Int) := tD
    have q306 : x4_1 < (l0_0.length : Int) := tD
    obtain ⟨ad306, e306, hx306_0, hx306_1, hx306_2, hx306_3, hx306_4, hx306_5, hx306_6, hx306_7, hx306_8, hx306_9, hx306_10⟩ := at_T48 HR0_0.out x4_1 p306 q306
    cases e306
    replace hx306_0 := cB HB hx306_0
    replace hx306_1 := cB HB hx306_1
    replace hx306_2 := cB HB hx306_2
    replace hx306_3 := cB HB hx306_3
    replace hx306_4 := cB HB hx306_4
    replace hx306_5 := cB HB hx306_5
    replace hx306_6 := cB HB hx306_6
    replace hx306_7 := cB HB hx306_7
    replace hx306_8 := cB HB hx306_8
    replace hx306_9 := cB HB hx306_9
    replace hx306_10 := cB HB hx306_10
    replace p306 := eq_true p306
    replace q306 := eq_true q306
    go_wp2_with (first | ((with_reducible refine gate_builtin (b := .append) (xs := #[.tmp 17, .tmp 24]) rfl ?_); at_builtin; refine Kd.R_append Kd.string (w0 := w) w.heap.size rfl (.tmp 17) (.tmp 24) 94 9 (.string ⟨#[]⟩) 16 rfl Try.underlying94 info9 rfl (by decide) (by omega) u3 x3_1 ((rd_T48 l0_0 x4_1).f0) [.string ((rd_T48 l0_0 x4_1).f0)] (fun _ => True) (fun _ => False) rfl rfl ?aP (fun _ hk => hk.elim) ?aF ?aO ?aB ?aS ?aL ?_; (case aP => exact rfl); (case aB => exact (kB1 HB GE305)); (case aF => exact (fun _ _ => trivial)); (case aO => exact (kR HO_3)); (case aS => exact (below_size (kB1 HB GE305))); (case aL => have := LMc5.out; omega); intro v308 w7 ho hb hg hat; rw [← Ny307.out] at ho; replace BK305 := Aside0.mk (blk_grown (g := gb305) (o := .cells #[.slice (some ad306) l0_0.length c0_0, .slice A0_1 l0_1.length c0_1, .slice A0_2 l0_2.length c0_2, .slice A0_3 l0_3.length c0_3, .slice A0_4 l0_4.length c0_4] 28 (0, 0)) (kK BK305) hg (Kd.R_ne HO_3.out BK305.out (by decide))); replace HB := Aside0.mk hb; have HO309 := Aside0.mk ho; clear HO_3; clear ho hb hg hat))
    go_roundg k1
    case measure => have := HK1.out; omega
    case rel => exact ⟨(y307), (wrap64 (x4_1 + 1)), tQ, H', ⟨kO HK1⟩, ⟨kR HO309⟩, ⟨kK BK305⟩, ⟨kB1 HB GE305⟩⟩
   rw [if_neg c3] at H
   have c3b0 : decide (x4_1 < (l0_0.length : Int)) = false := decide_eq_false c3
   clear c3
   have H' := Aside0.mk H
   clear H
   obtain ⟨⟨_,_,_,_,_⟩,_,_,_,_,_⟩ := bx5 BK305
   go_wp2
   go_loopg [3, 5] k1 (fun kq v3 v5 w' => ∃ (x3_2 : List ByteArray) (x5_2 : Int), v5 = .int .i64 x5_2 ∧ Aside0 (r04_names.l1 kq x3_2 x5_2 l0_0 l0_1 l0_2 l0_3 l0_4 = some r) ∧ Aside0 (kq ≤ k1) ∧ Aside0 (Kd.R Kd.string 9 w' w.heap.size (fun _ => True) v3 x3_2) ∧ Aside0 (w'.heap[gb305]? = some (.cells #[(.slice A0_0 l0_0.length c0_0), (.slice A0_1 l0_1.length c0_1), (.slice A0_2 l0_2.length c0_2), (.slice A0_3 l0_3.length c0_3), (.slice A0_4 l0_4.length c0_4)] 28 (0, 0))) ∧ Aside0 (Below w.heap.size w w'))
   case atStart => exact ⟨(x3_1), (0), tQ, H', ⟨Nat.le_refl _⟩, ⟨kR HO_3⟩, ⟨kK BK305⟩, ⟨kB1 HB GE305⟩⟩
   case round =>
    clear H'
    obtain ⟨x3_2, x5_2, rfl, HA, HK2, HO_3, BK305, HB⟩ := hrel
    cases gk with
    | zero => exact absurd HA.out (by simp [r04_names.l1])
    | succ k2 =>
     have H := HA.out
     clear HA
     simp only [r04_names.l1] at H
     by_cases c9 : x5_2 < (l0_1.length : Int)
     ·rw [if_pos c9] at H
      have c9b0 : decide (x5_2 < (l0_1.length : Int)) = true := decide_eq_true c9
      clear c9
      by_cases c10 : 0 ≤ x5_2
      rotate_left
      ·rw [if_neg c10] at H
       exact absurd H (by simp)
      rw [if_pos c10] at H
      have c10b0 : decide (0 ≤ x5_2) = true := decide_eq_true c10
      clear c10
      by_cases c11 : x3_2.length < 8796093022208
      rotate_left
      ·rw [if_neg c11] at H
       exact absurd H (by simp)
      rw [if_pos c11] at H
      have LMc11 := Aside0.mk c11
      clear c11
      obtain ⟨y311, hy311⟩ : ∃ y_ : List ByteArray, y_ = (x3_2 ++ [(rd_T62 l0_1 x5_2).f0]) := ⟨_, rfl⟩
      replace H : (r04_names.l1 k2 y311 (wrap64 (x5_2 + 1)) l0_0 l0_1 l0_2 l0_3 l0_4) = some r := by first | (rw [hy311]; with_reducible exact H) | (have H2_ := (Option.bind_some _ _).symm.trans H; rw [hy311]; with_reducible exact H2_) | (have H2_ := (Option.bind_some _ _).symm.trans H; with_reducible exact H2_) | with_reducible exact H | (rw [hy311]; exact H) | exact H
      have Ny311 := Aside0.mk hy311
      clear hy311
      have H' := Aside0.mk H
      clear H
      obtain ⟨⟨_,_,_,_,_⟩,_,_,_,_,_⟩ := bx5 BK305
      have p310 : 0 ≤ (x5_2 : Int) := tD
      have q310 : x5_2 < (l0_1.length : Int) := tD
      obtain ⟨ad310, e310, hx310_0⟩ := at_T62 HR0_1.out x5_2 p310 q310
      cases e310
      replace hx310_0 := cB HB hx310_0
      replace p310 := eq_true p310
      replace q310 := eq_true q310
      go_wp2_with (first | ((with_reducible refine gate_builtin (b := .append) (xs := #[.tmp 33, .tmp 40]) rfl ?_); at_builtin; refine Kd.R_append Kd.string (w0 := w) w.heap.size rfl (.tmp 33) (.tmp 40) 94 9 (.string ⟨#[]⟩) 16 rfl Try.underlying94 info9 rfl (by decide) (by omega) u3 x3_2 ((rd_T62 l0_1 x5_2).f0) [.string ((rd_T62 l0_1 x5_2).f0)] (fun _ => True) (fun _ => False) rfl rfl ?aP (fun _ hk => hk.elim) ?aF ?aO ?aB ?aS ?aL ?_; (case aP => exact rfl); (case aB => exact (kB1 HB GE305)); (case aF => exact (fun _ _ => trivial)); (case aO => exact (kR HO_3)); (case aS => exact (below_size (kB1 HB GE305))); (case aL => have := LMc11.out; omega); intro v312 w13 ho hb hg hat; rw [← Ny311.out] at ho; replace BK305 := Aside0.mk (blk_grown (g := gb305) (o := .cells #[.slice A0_0 l0_0.length c0_0, .slice (some ad310) l0_1.length c0_1, .slice A0_2 l0_2.length c0_2, .slice A0_3 l0_3.length c0_3, .slice A0_4 l0_4.length c0_4] 28 (0, 0)) (kK BK305) hg (Kd.R_ne HO_3.out BK305.out (by decide))); replace HB := Aside0.mk hb; have HO313 := Aside0.mk ho; clear HO_3; clear ho hb hg hat))
      go_roundg k2
      case measure => have := HK1.out; have := HK2.out; omega
      case rel => exact ⟨(y311), (wrap64 (x5_2 + 1)), tQ, H', ⟨kO2 HK1 HK2⟩, ⟨kR HO313⟩, ⟨kK BK305⟩, ⟨kB1 HB GE305⟩⟩
     rw [if_neg c9] at H
     have c9b0 : decide (x5_2 < (l0_1.length : Int)) = false := decide_eq_false c9
     clear c9
     have H' := Aside0.mk H
     clear H
     obtain ⟨⟨_,_,_,_,_⟩,_,_,_,_,_⟩ := bx5 BK305
     go_wp2
     go_loopg [3, 6] k2 (fun kq v3 v6 w' => ∃ (x3_3 : List ByteArray) (x6_3 : Int), v6 = .int .i64 x6_3 ∧ Aside0 (r04_names.l2 kq x3_3 x6_3 l0_0 l0_1 l0_2 l0_3 l0_4 = some r) ∧ Aside0 (kq ≤ k2) ∧ Aside0 (Kd.R Kd.string 9 w' w.heap.size (fun _ => True) v3 x3_3) ∧ Aside0 (w'.heap[gb305]? = some (.cells #[(.slice A0_0 l0_0.length c0_0), (.slice A0_1 l0_1.length c0_1), (.slice A0_2 l0_2.length c0_2), (.slice A0_3 l0_3.length c0_3), (.slice A0_4 l0_4.length c0_4)] 28 (0, 0))) ∧ Aside0 (Below w.heap.size w w'))
     case atStart => exact ⟨(x3_2), (0), tQ, H', ⟨Nat.le_refl _⟩, ⟨kR HO_3⟩, ⟨kK BK305⟩, ⟨kB1 HB GE305⟩⟩
     case round =>
      clear H'
      obtain ⟨x3_3, x6_3, rfl, HA, HK3, HO_3, BK305, HB⟩ := hrel
      cases gk with
      | zero => exact absurd HA.out (by simp [r04_names.l2])
      | succ k3 =>
       have H := HA.out
       clear HA
       simp only [r04_names.l2] at H
       by_cases c15 : x6_3 < (l0_2.length : Int)
       ·rw [if_pos c15] at H
        have c15b0 : decide (x6_3 < (l0_2.length : Int)) = true := decide_eq_true c15
        clear c15
        by_cases c16 : 0 ≤ x6_3
        rotate_left
        ·rw [if_neg c16] at H
         exact absurd H (by simp)
        rw [if_pos c16] at H
        have c16b0 : decide (0 ≤ x6_3) = true := decide_eq_true c16
        clear c16
        by_cases c17 : x3_3.length < 8796093022208
        rotate_left
        ·rw [if_neg c17] at H
         exact absurd H (by simp)
        rw [if_pos c17] at H
        have LMc17 := Aside0.mk c17
        clear c17
        obtain ⟨y315, hy315⟩ : ∃ y_ : List ByteArray, y_ = (x3_3 ++ [(rd_T84 l0_2 x6_3).f0]) := ⟨_, rfl⟩
        replace H : (r04_names.l2 k3 y315 (wrap64 (x6_3 + 1)) l0_0 l0_1 l0_2 l0_3 l0_4) = some r := by first | (rw [hy315]; with_reducible exact H) | (have H2_ := (Option.bind_some _ _).symm.trans H; rw [hy315]; with_reducible exact H2_) | (have H2_ := (Option.bind_some _ _).symm.trans H; with_reducible exact H2_) | with_reducible exact H | (rw [hy315]; exact H) | exact H
        have Ny315 := Aside0.mk hy315
        clear hy315
        have H' := Aside0.mk H
        clear H
        obtain ⟨⟨_,_,_,_,_⟩,_,_,_,_,_⟩ := bx5 BK305
        have p314 : 0 ≤ (x6_3 : Int) := tD
        have q314 : x6_3 < (l0_2.length : Int) := tD
        obtain ⟨ad314, e314, hx314_0, hx314_1, hx314_2, hx314_3⟩ := at_T84 HR0_2.out x6_3 p314 q314
        cases e314
        replace hx314_0 := cB HB hx314_0
        replace hx314_1 := cB HB hx314_1
        replace hx314_2 := cB HB hx314_2
        replace hx314_3 := cB HB hx314_3
        replace p314 := eq_true p314
        replace q314 := eq_true q314
        go_wp2_with (first | ((with_reducible refine gate_builtin (b := .append) (xs := #[.tmp 49, .tmp 56]) rfl ?_); at_builtin; refine Kd.R_append Kd.string (w0 := w) w.heap.size rfl (.tmp 49) (.tmp 56) 94 9 (.string ⟨#[]⟩) 16 rfl Try.underlying94 info9 rfl (by decide) (by omega) u3 x3_3 ((rd_T84 l0_2 x6_3).f0) [.string ((rd_T84 l0_2 x6_3).f0)] (fun _ => True) (fun _ => False) rfl rfl ?aP (fun _ hk => hk.elim) ?aF ?aO ?aB ?aS ?aL ?_; (case aP => exact rfl); (case aB => exact (kB1 HB GE305)); (case aF => exact (fun _ _ => trivial)); (case aO => exact (kR HO_3)); (case aS => exact (below_size (kB1 HB GE305))); (case aL => have := LMc17.out; omega); intro v316 w19 ho hb hg hat; rw [← Ny315.out] at ho; replace BK305 := Aside0.mk (blk_grown (g := gb305) (o := .cells #[.slice A0_0 l0_0.length c0_0, .slice A0_1 l0_1.length c0_1, .slice (some ad314) l0_2.length c0_2, .slice A0_3 l0_3.length c0_3, .slice A0_4 l0_4.length c0_4] 28 (0, 0)) (kK BK305) hg (Kd.R_ne HO_3.out BK305.out (by decide))); replace HB := Aside0.mk hb; have HO317 := Aside0.mk ho; clear HO_3; clear ho hb hg hat))
        go_roundg k3
        case measure => have := HK1.out; have := HK2.out; have := HK3.out; omega
        case rel => exact ⟨(y315), (wrap64 (x6_3 + 1)), tQ, H', ⟨kO3 HK1 HK2 HK3⟩, ⟨kR HO317⟩, ⟨kK BK305⟩, ⟨kB1 HB GE305⟩⟩
       rw [if_neg c15] at H
       have c15b0 : decide (x6_3 < (l0_2.length : Int)) = false := decide_eq_false c15
       clear c15
       have H' := Aside0.mk H
       clear H
       obtain ⟨⟨_,_,_,_,_⟩,_,_,_,_,_⟩ := bx5 BK305
       go_wp2
       go_loopg [3, 7] k3 (fun kq v3 v7 w' => ∃ (x3_4 : List ByteArray) (x7_4 : Int), v7 = .int .i64 x7_4 ∧ Aside0 (r04_names.l3 kq x3_4 x7_4 l0_0 l0_1 l0_2 l0_3 l0_4 = some r) ∧ Aside0 (kq ≤ k3) ∧ Aside0 (Kd.R Kd.string 9 w' w.heap.size (fun _ => True) v3 x3_4) ∧ Aside0 (w'.heap[gb305]? = some (.cells #[(.slice A0_0 l0_0.length c0_0), (.slice A0_1 l0_1.length c0_1), (.slice A0_2 l0_2.length c0_2), (.slice A0_3 l0_3.length c0_3), (.slice A0_4 l0_4.length c0_4)] 28 (0, 0))) ∧ Aside0 (Below w.heap.size w w'))
       case atStart => exact ⟨(x3_3), (0), tQ, H', ⟨Nat.le_refl _⟩, ⟨kR HO_3⟩, ⟨kK BK305⟩, ⟨kB1 HB GE305⟩⟩
       case round =>
        clear H'
        obtain ⟨x3_4, x7_4, rfl, HA, HK4, HO_3, BK305, HB⟩ := hrel
        cases gk with
        | zero => exact absurd HA.out (by simp [r04_names.l3])
        | succ k4 =>
         have H := HA.out
         clear HA
         simp only [r04_names.l3] at H
         by_cases c21 : x7_4 < (l0_3.length : Int)
         ·rw [if_pos c21] at H
          have c21b0 : decide (x7_4 < (l0_3.length : Int)) = true := decide_eq_true c21
          clear c21
          by_cases c22 : 0 ≤ x7_4
          rotate_left
          ·rw [if_neg c22] at H
           exact absurd H (by simp)
          rw [if_pos c22] at H
          have c22b0 : decide (0 ≤ x7_4) = true := decide_eq_true c22
          clear c22
          by_cases c23 : x3_4.length < 8796093022208
          rotate_left
          ·rw [if_neg c23] at H
           exact absurd H (by simp)
          rw [if_pos c23] at H
          have LMc23 := Aside0.mk c23
          clear c23
          obtain ⟨y319, hy319⟩ : ∃ y_ : List ByteArray, y_ = (x3_4 ++ [(rd_T42 l0_3 x7_4).f0]) := ⟨_, rfl⟩
          replace H : (r04_names.l3 k4 y319 (wrap64 (x7_4 + 1)) l0_0 l0_1 l0_2 l0_3 l0_4) = some r := by first | (rw [hy319]; with_reducible exact H) | (have H2_ := (Option.bind_some _ _).symm.trans H; rw [hy319]; with_reducible exact H2_) | (have H2_ := (Option.bind_some _ _).symm.trans H; with_reducible exact H2_) | with_reducible exact H | (rw [hy319]; exact H) | exact H
          have Ny319 := Aside0.mk hy319
          clear hy319
          have H' := Aside0.mk H
          clear H
          obtain ⟨⟨_,_,_,_,_⟩,_,_,_,_,_⟩ := bx5 BK305
          have p318 : 0 ≤ (x7_4 : Int) := tD
          have q318 : x7_4 < (l0_3.length : Int) := tD
          obtain ⟨ad318, e318, hx318_0, hx318_1, hx318_2, hx318_3, hx318_4, hx318_5, hx318_6, hx318_7⟩ := at_T42 HR0_3.out x7_4 p318 q318
          cases e318
          replace hx318_0 := cB HB hx318_0
          replace hx318_1 := cB HB hx318_1
          replace hx318_2 := cB HB hx318_2
          replace hx318_3 := cB HB hx318_3
          replace hx318_4 := cB HB hx318_4
          replace hx318_5 := cB HB hx318_5
          replace hx318_6 := cB HB hx318_6
          replace hx318_7 := cB HB hx318_7
          replace p318 := eq_true p318
          replace q318 := eq_true q318
          go_wp2_with (first | ((with_reducible refine gate_builtin (b := .append) (xs := #[.tmp 65, .tmp 72]) rfl ?_); at_builtin; refine Kd.R_append Kd.string (w0 := w) w.heap.size rfl (.tmp 65) (.tmp 72) 94 9 (.string ⟨#[]⟩) 16 rfl Try.underlying94 info9 rfl (by decide) (by omega) u3 x3_4 ((rd_T42 l0_3 x7_4).f0) [.string ((rd_T42 l0_3 x7_4).f0)] (fun _ => True) (fun _ => False) rfl rfl ?aP (fun _ hk => hk.elim) ?aF ?aO ?aB ?aS ?aL ?_; (case aP => exact rfl); (case aB => exact (kB1 HB GE305)); (case aF => exact (fun _ _ => trivial)); (case aO => exact (kR HO_3)); (case aS => exact (below_size (kB1 HB GE305))); (case aL => have := LMc23.out; omega); intro v320 w25 ho hb hg hat; rw [← Ny319.out] at ho; replace BK305 := Aside0.mk (blk_grown (g := gb305) (o := .cells #[.slice A0_0 l0_0.length c0_0, .slice A0_1 l0_1.length c0_1, .slice A0_2 l0_2.length c0_2, .slice (some ad318) l0_3.length c0_3, .slice A0_4 l0_4.length c0_4] 28 (0, 0)) (kK BK305) hg (Kd.R_ne HO_3.out BK305.out (by decide))); replace HB := Aside0.mk hb; have HO321 := Aside0.mk ho; clear HO_3; clear ho hb hg hat))
          go_roundg k4
          case measure => have := HK1.out; have := HK2.out; have := HK3.out; have := HK4.out; omega
          case rel => exact ⟨(y319), (wrap64 (x7_4 + 1)), tQ, H', ⟨kO4 HK1 HK2 HK3 HK4⟩, ⟨kR HO321⟩, ⟨kK BK305⟩, ⟨kB1 HB GE305⟩⟩
         rw [if_neg c21] at H
         have c21b0 : decide (x7_4 < (l0_3.length : Int)) = false := decide_eq_false c21
         clear c21
         have H' := Aside0.mk H
         clear H
         obtain ⟨⟨_,_,_,_,_⟩,_,_,_,_,_⟩ := bx5 BK305
         go_wp2
         go_loopg [3, 8] k4 (fun kq v3 v8 w' => ∃ (x3_5 : List ByteArray) (x8_5 : Int), v8 = .int .i64 x8_5 ∧ Aside0 (r04_names.l4 kq x3_5 x8_5 l0_0 l0_1 l0_2 l0_3 l0_4 = some r) ∧ Aside0 (kq ≤ k4) ∧ Aside0 (Kd.R Kd.string 9 w' w.heap.size (fun _ => True) v3 x3_5) ∧ Aside0 (w'.heap[gb305]? = some (.cells #[(.slice A0_0 l0_0.length c0_0), (.slice A0_1 l0_1.length c0_1), (.slice A0_2 l0_2.length c0_2), (.slice A0_3 l0_3.length c0_3), (.slice A0_4 l0_4.length c0_4)] 28 (0, 0))) ∧ Aside0 (Below w.heap.size w w'))
         case atStart => exact ⟨(x3_4), (0), tQ, H', ⟨Nat.le_refl _⟩, ⟨kR HO_3⟩, ⟨kK BK305⟩, ⟨kB1 HB GE305⟩⟩
         case round =>
          clear H'
          obtain ⟨x3_5, x8_5, rfl, HA, HK5, HO_3, BK305, HB⟩ := hrel
          cases gk with
          | zero => exact absurd HA.out (by simp [r04_names.l4])
          | succ k5 =>
           have H := HA.out
           clear HA
           simp only [r04_names.l4] at H
           by_cases c27 : x8_5 < (l0_4.length : Int)
           ·rw [if_pos c27] at H
            have c27b0 : decide (x8_5 < (l0_4.length : Int)) = true := decide_eq_true c27
            clear c27
            by_cases c28 : 0 ≤ x8_5
            rotate_left
            ·rw [if_neg c28] at H
             exact absurd H (by simp)
            rw [if_pos c28] at H
            have c28b0 : decide (0 ≤ x8_5) = true := decide_eq_true c28
            clear c28
            by_cases c29 : x3_5.length < 8796093022208
            rotate_left
            ·rw [if_neg c29] at H
             exact absurd H (by simp)
            rw [if_pos c29] at H
            have LMc29 := Aside0.mk c29
            clear c29
            obtain ⟨y323, hy323⟩ : ∃ y_ : List ByteArray, y_ = (x3_5 ++ [(rd_T87 l0_4 x8_5).f0]) := ⟨_, rfl⟩
            replace H : (r04_names.l4 k5 y323 (wrap64 (x8_5 + 1)) l0_0 l0_1 l0_2 l0_3 l0_4) = some r := by first | (rw [hy323]; with_reducible exact H) | (have H2_ := (Option.bind_some _ _).symm.trans H; rw [hy323]; with_reducible exact H2_) | (have H2_ := (Option.bind_some _ _).symm.trans H; with_reducible exact H2_) | with_reducible exact H | (rw [hy323]; exact H) | exact H
            have Ny323 := Aside0.mk hy323
            clear hy323
            have H' := Aside0.mk H
            clear H
            obtain ⟨⟨_,_,_,_,_⟩,_,_,_,_,_⟩ := bx5 BK305
            have p322 : 0 ≤ (x8_5 : Int) := tD
            have q322 : x8_5 < (l0_4.length : Int) := tD
            obtain ⟨ad322, e322, hx322_0, hx322_1⟩ := at_T87 HR0_4.out x8_5 p322 q322
            cases e322
            replace hx322_0 := cB HB hx322_0
            replace hx322_1 := cB HB hx322_1
            replace p322 := eq_true p322
            replace q322 := eq_true q322
            go_wp2_with (first | ((with_reducible refine gate_builtin (b := .append) (xs := #[.tmp 81, .tmp 88]) rfl ?_); at_builtin; refine Kd.R_append Kd.string (w0 := w) w.heap.size rfl (.tmp 81) (.tmp 88) 94 9 (.string ⟨#[]⟩) 16 rfl Try.underlying94 info9 rfl (by decide) (by omega) u3 x3_5 ((rd_T87 l0_4 x8_5).f0) [.string ((rd_T87 l0_4 x8_5).f0)] (fun _ => True) (fun _ => False) rfl rfl ?aP (fun _ hk => hk.elim) ?aF ?aO ?aB ?aS ?aL ?_; (case aP => exact rfl); (case aB => exact (kB1 HB GE305)); (case aF => exact (fun _ _ => trivial)); (case aO => exact (kR HO_3)); (case aS => exact (below_size (kB1 HB GE305))); (case aL => have := LMc29.out; omega); intro v324 w31 ho hb hg hat; rw [← Ny323.out] at ho; replace BK305 := Aside0.mk (blk_grown (g := gb305) (o := .cells #[.slice A0_0 l0_0.length c0_0, .slice A0_1 l0_1.length c0_1, .slice A0_2 l0_2.length c0_2, .slice A0_3 l0_3.length c0_3, .slice (some ad322) l0_4.length c0_4] 28 (0, 0)) (kK BK305) hg (Kd.R_ne HO_3.out BK305.out (by decide))); replace HB := Aside0.mk hb; have HO325 := Aside0.mk ho; clear HO_3; clear ho hb hg hat))
            go_roundg k5
            case measure => have := HK1.out; have := HK2.out; have := HK3.out; have := HK4.out; have := HK5.out; omega
            case rel => exact ⟨(y323), (wrap64 (x8_5 + 1)), tQ, H', ⟨by have := HK1.out; have := HK2.out; have := HK3.out; have := HK4.out; have := HK5.out; omega⟩, ⟨kR HO325⟩, ⟨kK BK305⟩, ⟨kB1 HB GE305⟩⟩
           rw [if_neg c27] at H
           have c27b0 : decide (x8_5 < (l0_4.length : Int)) = false := decide_eq_false c27
           clear c27
           have H' := Aside0.mk H
           clear H
           obtain ⟨⟨_,_,_,_,_⟩,_,_,_,_,_⟩ := bx5 BK305
           go_wp2
           go_loopg [9] k5 (fun kq v9 w' => ∃ (x9_6 : Int), v9 = .int .i64 x9_6 ∧ Aside0 (r04_names.l5 kq x3_5 x9_6 = some r) ∧ Aside0 (kq ≤ k5) ∧ Aside0 (Kd.R Kd.string 9 w' w.heap.size (fun _ => True) u3 x3_5) ∧ Aside0 (w'.heap[gb305]? = some (.cells #[(.slice A0_0 l0_0.length c0_0), (.slice A0_1 l0_1.length c0_1), (.slice A0_2 l0_2.length c0_2), (.slice A0_3 l0_3.length c0_3), (.slice A0_4 l0_4.length c0_4)] 28 (0, 0))) ∧ Aside0 (Below w.heap.size w w'))
           case atStart => exact ⟨(0), tQ, H', ⟨Nat.le_refl _⟩, ⟨kR HO_3⟩, ⟨kK BK305⟩, ⟨kB1 HB GE305⟩⟩
           case round =>
            clear H'
            obtain ⟨x9_6, rfl, HA, HK6, HO_3, BK305, HB⟩ := hrel
            cases gk with
            | zero => exact absurd HA.out (by simp [r04_names.l5])
            | succ k6 =>
             have H := HA.out
             clear HA
             simp only [r04_names.l5] at H
             by_cases c33 : x9_6 < (x3_5.length : Int)
             rotate_left
             ·rw [if_neg c33] at H
              have c33b0 : decide (x9_6 < (x3_5.length : Int)) = false := decide_eq_false c33
              clear c33
              obtain rfl := Option.some.inj H
              obtain ⟨Ao52, co52, eo52⟩ := Kd.R_slice HO_3.out
              subst eo52
              go_wp2
              go_ret
              exact ⟨tE, kB1 HB GE305⟩
             rw [if_pos c33] at H
             have c33b0 : decide (x9_6 < (x3_5.length : Int)) = true := decide_eq_true c33
             clear c33
             by_cases c34 : 0 ≤ x9_6
             rotate_left
             ·rw [if_neg c34] at H
              exact absurd H (by simp)
             rw [if_pos c34] at H
             have c34b0 : decide (0 ≤ x9_6) = true := decide_eq_true c34
             clear c34
             obtain ⟨t327, A35, H⟩ := bnd H
             by_cases c36 : t327 = true
             rotate_left
             ·replace c36 := Bool.eq_false_iff.mpr c36
              subst c36
              replace H := ifF H
              obtain rfl := Option.some.inj H
              obtain ⟨Ao49, co49, eo49⟩ := Kd.R_slice HO_3.out
              subst eo49
              try go_wp2
              replace HO_3 := Aside0.mk (Kd.R_drew HO_3.out)
              replace BK305 := Aside0.mk (blk_drew BK305.out)
              replace HB := Aside0.mk (below_drew1 HB.out)
              have p326 : 0 ≤ (x9_6 : Int) := tD
              have q326 : x9_6 < (x3_5.length : Int) := tD
              obtain ⟨ad326, e326, hx326_0⟩ := Kd.at_string (Kd.R_reads' HO_3.out).2.2 x9_6 p326 q326
              cases e326
              replace p326 := eq_true p326
              replace q326 := eq_true q326
              refine start_ (n := 16) (S := fun w' => w'.cell? (ad326.add (x9_6).toNat) = some (.string (rdOf ByteArray.empty x3_5 x9_6))) (ds := []) #[false, false, false, false, false, false, false, false, false, false, false, false, false, false, false, false] (by kernel_rfl) rfl rfl (hx326_0) (fun hHeld => ?_); refine with_tabW r04_names.tab25 r04_names.bits25 (fun HT_ HW_ => ?_)
              generalize wr.drew = w50 at HO_3 BK305 HB hx326_0 hHeld ⊢
              refine pS 0 (some 96) HT_ ?_
              refine pS 1 (some 97) HT_ ?_
              refine pS 2 (some 98) HT_ ?_
              refine tS 3 (some 99) HT_ HW_ hHeld ?_
              refine oS 4 (some 100) HT_ (fun K hK => ?_)
              refine goes_ Try.func52 (by kernel_rfl) rfl #[.string (rdOf ByteArray.empty x3_5 x9_6)] (by rfl) rfl rfl tL ?_
              with_reducible refine (r02_Name.calls k6 (rdOf ByteArray.empty x3_5 x9_6) false _ A35.out).mono ?_
              rintro e w51 ⟨rfl, hb⟩
              have HS0_ := (hb.cell (World.block_lt_of_cell? _ _ (hHeld))).trans (hHeld)
              refine ⟨_, rfl, ?_⟩
              replace HO_3 := Aside0.mk (Kd.R_below (kR HO_3) hb)
              replace BK305 := bK BK305 hb
              replace HB := bS (kB1 HB GE305) hb
              (try clear hb)
              (try clear hb2)
              (try clear hk)
              (try clear hi)
              refine hK.out _ _ (HS0_) (fun hHeld => ?_)
              clear hK K
              refine norm_ (a' := ?_) ?_ ?_
              rotate_left
              ·show Act.put _ (some 100) _ = _
               simp only [Act.put, List.setIfInBounds_toArray, List.set_cons_zero, List.set_cons_succ, i64_w, i32_w]
               rfl
              refine pS 5 (some 101) HT_ ?_
              refine pS 6 (some 102) HT_ ?_
              refine uS 7 (some 103) HT_ ?_
              refine uS 8 (some 104) HT_ ?_
              refine uS 9 (some 105) HT_ ?_
              refine uS 10 (some 106) HT_ ?_
              refine uS 11 (some 107) HT_ ?_
              refine uS 12 (some 108) HT_ ?_
              refine uS 13 (some 109) HT_ ?_
              refine uS 14 (some 110) HT_ ?_
              refine pS 15 (some 111) HT_ ?_
              refine done_ (done_of HT_.out (by kernel_rfl)) ?_
              try go_wp2
              go_ret
              exact ⟨tE, kB1 HB GE305⟩
             subst c36
             replace H := ifT H
             have c37b0 := eq_true (tD : 0 ≤ x9_6)
             by_cases c38 : x9_6 ≤ (x3_5.length : Int)
             rotate_left
             ·rw [if_neg c38] at H
              exact absurd H (by simp)
             rw [if_pos c38] at H
             have c38b0 := eq_true c38
             have c38b1 : decide (x9_6 ≤ (x3_5.length : Int)) = true := decide_eq_true c38
             clear c38
             obtain ⟨y328, hy328⟩ : ∃ y_ : List ByteArray, y_ = (x3_5.take (x9_6 : Int).toNat) := ⟨_, rfl⟩
             replace H : ((r04_has.f k6 y328 (rdOf ByteArray.empty x3_5 x9_6)).bind fun t333 => (if t333 = true then (some false) else (r04_names.l5 k6 x3_5 (wrap64 (x9_6 + 1))))) = some r := by first | (rw [hy328]; with_reducible exact H) | (have H2_ := (Option.bind_some _ _).symm.trans H; rw [hy328]; with_reducible exact H2_) | (have H2_ := (Option.bind_some _ _).symm.trans H; with_reducible exact H2_) | with_reducible exact H | (rw [hy328]; exact H) | exact H
             have Ny328 := Aside0.mk hy328
             clear hy328
             obtain ⟨t333, A39, H⟩ := bnd H
             by_cases c40 : t333 = true
             ·subst c40
              replace H := ifT H
              obtain rfl := Option.some.inj H
              obtain ⟨Ao41, co41, eo41⟩ := Kd.R_slice HO_3.out
              subst eo41
              try go_wp2
              replace HO_3 := Aside0.mk (Kd.R_drew HO_3.out)
              replace BK305 := Aside0.mk (blk_drew BK305.out)
              replace HB := Aside0.mk (below_drew1 HB.out)
              have p326 : 0 ≤ (x9_6 : Int) := tD
              have q326 : x9_6 < (x3_5.length : Int) := tD
              obtain ⟨ad326, e326, hx326_0⟩ := Kd.at_string (Kd.R_reads' HO_3.out).2.2 x9_6 p326 q326
              cases e326
              replace p326 := eq_true p326
              replace q326 := eq_true q326
              have p332 : 0 ≤ (x9_6 : Int) := tD
              have q332 : x9_6 < (x3_5.length : Int) := tD
              obtain ⟨ad332, e332, hx332_0⟩ := Kd.at_string (Kd.R_reads' HO_3.out).2.2 x9_6 p332 q332
              obtain rfl : ad326 = ad332 := (by injection e332)
              replace p332 := eq_true p332
              replace q332 := eq_true q332
              refine start_ (n := 16) (S := fun w' => w'.cell? (ad326.add (x9_6).toNat) = some (.string (rdOf ByteArray.empty x3_5 x9_6)) ∧ w'.cell? (ad326.add (x9_6).toNat) = some (.string (rdOf ByteArray.empty x3_5 x9_6))) (ds := []) #[false, false, false, false, false, false, false, false, false, false, false, false, false, false, false, false] (by kernel_rfl) rfl rfl ⟨hx326_0, hx332_0⟩ (fun hHeld => ?_); refine with_tabW r04_names.tab25 r04_names.bits25 (fun HT_ HW_ => ?_)
              generalize wr.drew = w42 at HO_3 BK305 HB hx326_0 hx332_0 hHeld ⊢
              refine pS 0 (some 96) HT_ ?_
              refine pS 1 (some 97) HT_ ?_
              refine pS 2 (some 98) HT_ ?_
              refine tS 3 (some 99) HT_ HW_ hHeld ?_
              refine oS 4 (some 100) HT_ (fun K hK => ?_)
              refine goes_ Try.func52 (by kernel_rfl) rfl #[.string (rdOf ByteArray.empty x3_5 x9_6)] (by rfl) rfl rfl tL ?_
              with_reducible refine (r02_Name.calls k6 (rdOf ByteArray.empty x3_5 x9_6) true _ A35.out).mono ?_
              rintro e w43 ⟨rfl, hb⟩
              have HS0_ := (hb.cell (World.block_lt_of_cell? _ _ (hHeld.1))).trans (hHeld.1)
              have HS1_ := (hb.cell (World.block_lt_of_cell? _ _ (hHeld.2))).trans (hHeld.2)
              refine ⟨_, rfl, ?_⟩
              replace HO_3 := Aside0.mk (Kd.R_below (kR HO_3) hb)
              replace BK305 := bK BK305 hb
              replace HB := bS (kB1 HB GE305) hb
              (try clear hb)
              (try clear hb2)
              (try clear hk)
              (try clear hi)
              have q44 : (x9_6 : Int) ≤ ((x3_5.length : Int) : Int) := tD
              obtain ⟨i044, hi044, _, hsz44, _⟩ := info_parts info9
              have hroom44 : x3_5.length ≤ co41 := (Kd.R_reads' HO_3.out).2.1
              have hC44 : Kd.C Kd.string _ (some ad326) x3_5.length x3_5 := (Kd.R_reads' HO_3.out).2.2
              have hcut44 := cut_to (P := Try.prog) 94 9 .i64 Try.underlying94 hi044 (some ad326) x3_5.length co41 x9_6 (tD) q44 hroom44
              have hr44 := Kd.C_take (m := (x9_6 : Int).toNat) hC44 (by omega)
              have hy44 : y328.length = (x9_6 : Int).toNat := (by rw [Ny328.out, List.length_take]; omega)
              rw [← Ny328.out] at hr44
              rw [← hy44] at hcut44
              have HR331 := Aside0.mk hr44
              have HC331 := Aside0.mk (show y328.length ≤ co41 from by omega)
              clear hr44 hC44 hroom44 hi044 hsz44
              have KY44 := Aside0.mk hy44
              clear hy44
              have KL44 := Aside0.mk (show (x9_6 : Int).toNat ≤ x3_5.length from by omega)
              replace q44 := eq_true q44
              refine hK.out _ _ ⟨HS0_, HS1_⟩ (fun hHeld => ?_)
              clear hK K
              refine norm_ (a' := ?_) ?_ ?_
              rotate_left
              ·show Act.put _ (some 100) _ = _
               simp only [Act.put, List.setIfInBounds_toArray, List.set_cons_zero, List.set_cons_succ, i64_w, i32_w]
               rfl
              refine pS 5 (some 101) HT_ ?_
              refine pS 6 (some 102) HT_ ?_
              refine pS 7 (some 103) HT_ ?_
              refine pS 8 (some 104) HT_ ?_
              refine pS 9 (some 105) HT_ ?_
              refine pS 10 (some 106) HT_ ?_
              refine pS 11 (some 107) HT_ ?_
              refine pS 12 (some 108) HT_ ?_
              refine tS 13 (some 109) HT_ HW_ hHeld ?_
              refine oS 14 (some 110) HT_ (fun K hK => ?_)
              refine goes_ Try.func53 (by kernel_rfl) rfl #[.slice (some ad326) y328.length co41, .string (rdOf ByteArray.empty x3_5 x9_6)] (by rfl) rfl rfl tL ?_
              refine (r04_has.calls k6 _ _ y328 (rdOf ByteArray.empty x3_5 x9_6) true _ (by repeat (first | exact (by repeat (first | (with_reducible exact HR331.out) | (with_reducible refine Kd.C_alloc ?_ _) | (with_reducible refine Kd.C_drewN ?_ _) | (with_reducible refine Kd.C_drew ?_) | exact HR331.out)) | (with_reducible refine Kd.C_alloc ?_ _) | (with_reducible refine Kd.C_drewN ?_ _) | (with_reducible refine Kd.C_drew ?_))) HC331.out A39.out).mono ?_
              rintro e w' ⟨rfl, ⟨nd, rfl⟩⟩
              refine ⟨_, rfl, ?_⟩
              refine hK.out _ _ ⟨hHeld.1, hHeld.2⟩ (fun hHeld => ?_)
              clear hK K
              refine norm_ (a' := ?_) ?_ ?_
              rotate_left
              ·show Act.put _ (some 110) _ = _
               simp only [Act.put, List.setIfInBounds_toArray, List.set_cons_zero, List.set_cons_succ, i64_w, i32_w]
               rfl
              refine pS 15 (some 111) HT_ ?_
              refine done_ (done_of HT_.out (by kernel_rfl)) ?_
              try go_wp2
              go_ret
              exact ⟨tE, kB1 HB GE305⟩
             replace c40 := Bool.eq_false_iff.mpr c40
             subst c40
             replace H := ifF H
             have H' := Aside0.mk H
             clear H
             obtain ⟨Ao45, co45, eo45⟩ := Kd.R_slice HO_3.out
             subst eo45
             try go_wp2
             replace HO_3 := Aside0.mk (Kd.R_drew HO_3.out)
             replace BK305 := Aside0.mk (blk_drew BK305.out)
             replace HB := Aside0.mk (below_drew1 HB.out)
             have p326 : 0 ≤ (x9_6 : Int) := tD
             have q326 : x9_6 < (x3_5.length : Int) := tD
             obtain ⟨ad326, e326, hx326_0⟩ := Kd.at_string (Kd.R_reads' HO_3.out).2.2 x9_6 p326 q326
             cases e326
             replace p326 := eq_true p326
             replace q326 := eq_true q326
             have p332 : 0 ≤ (x9_6 : Int) := tD
             have q332 : x9_6 < (x3_5.length : Int) := tD
             obtain ⟨ad332, e332, hx332_0⟩ := Kd.at_string (Kd.R_reads' HO_3.out).2.2 x9_6 p332 q332
             obtain rfl : ad326 = ad332 := (by injection e332)
             replace p332 := eq_true p332
             replace q332 := eq_true q332
             refine start_ (n := 16) (S := fun w' => w'.cell? (ad326.add (x9_6).toNat) = some (.string (rdOf ByteArray.empty x3_5 x9_6)) ∧ w'.cell? (ad326.add (x9_6).toNat) = some (.string (rdOf ByteArray.empty x3_5 x9_6))) (ds := []) #[false, false, false, false, false, false, false, false, false, false, false, false, false, false, false, false] (by kernel_rfl) rfl rfl ⟨hx326_0, hx332_0⟩ (fun hHeld => ?_); refine with_tabW r04_names.tab25 r04_names.bits25 (fun HT_ HW_ => ?_)
             generalize wr.drew = w46 at HO_3 BK305 HB hx326_0 hx332_0 hHeld ⊢
             refine pS 0 (some 96) HT_ ?_
             refine pS 1 (some 97) HT_ ?_
             refine pS 2 (some 98) HT_ ?_
             refine tS 3 (some 99) HT_ HW_ hHeld ?_
             refine oS 4 (some 100) HT_ (fun K hK => ?_)
             refine goes_ Try.func52 (by kernel_rfl) rfl #[.string (rdOf ByteArray.empty x3_5 x9_6)] (by rfl) rfl rfl tL ?_
             with_reducible refine (r02_Name.calls k6 (rdOf ByteArray.empty x3_5 x9_6) true _ A35.out).mono ?_
             rintro e w47 ⟨rfl, hb⟩
             have HS0_ := (hb.cell (World.block_lt_of_cell? _ _ (hHeld.1))).trans (hHeld.1)
             have HS1_ := (hb.cell (World.block_lt_of_cell? _ _ (hHeld.2))).trans (hHeld.2)
             refine ⟨_, rfl, ?_⟩
             replace HO_3 := Aside0.mk (Kd.R_below (kR HO_3) hb)
             replace BK305 := bK BK305 hb
             replace HB := bS (kB1 HB GE305) hb
             (try clear hb)
             (try clear hb2)
             (try clear hk)
             (try clear hi)
             have q48 : (x9_6 : Int) ≤ ((x3_5.length : Int) : Int) := tD
             obtain ⟨i048, hi048, _, hsz48, _⟩ := info_parts info9
             have hroom48 : x3_5.length ≤ co45 := (Kd.R_reads' HO_3.out).2.1
             have hC48 : Kd.C Kd.string _ (some ad326) x3_5.length x3_5 := (Kd.R_reads' HO_3.out).2.2
             have hcut48 := cut_to (P := Try.prog) 94 9 .i64 Try.underlying94 hi048 (some ad326) x3_5.length co45 x9_6 (tD) q48 hroom48
             have hr48 := Kd.C_take (m := (x9_6 : Int).toNat) hC48 (by omega)
             have hy48 : y328.length = (x9_6 : Int).toNat := (by rw [Ny328.out, List.length_take]; omega)
             rw [← Ny328.out] at hr48
             rw [← hy48] at hcut48
             have HR331 := Aside0.mk hr48
             have HC331 := Aside0.mk (show y328.length ≤ co45 from by omega)
             clear hr48 hC48 hroom48 hi048 hsz48
             have KY48 := Aside0.mk hy48
             clear hy48
             have KL48 := Aside0.mk (show (x9_6 : Int).toNat ≤ x3_5.length from by omega)
             replace q48 := eq_true q48
             refine hK.out _ _ ⟨HS0_, HS1_⟩ (fun hHeld => ?_)
             clear hK K
             refine norm_ (a' := ?_) ?_ ?_
             rotate_left
             ·show Act.put _ (some 100) _ = _
              simp only [Act.put, List.setIfInBounds_toArray, List.set_cons_zero, List.set_cons_succ, i64_w, i32_w]
              rfl
             refine pS 5 (some 101) HT_ ?_
             refine pS 6 (some 102) HT_ ?_
             refine pS 7 (some 103) HT_ ?_
             refine pS 8 (some 104) HT_ ?_
             refine pS 9 (some 105) HT_ ?_
             refine pS 10 (some 106) HT_ ?_
             refine pS 11 (some 107) HT_ ?_
             refine pS 12 (some 108) HT_ ?_
             refine tS 13 (some 109) HT_ HW_ hHeld ?_
             refine oS 14 (some 110) HT_ (fun K hK => ?_)
             refine goes_ Try.func53 (by kernel_rfl) rfl #[.slice (some ad326) y328.length co45, .string (rdOf ByteArray.empty x3_5 x9_6)] (by rfl) rfl rfl tL ?_
             refine (r04_has.calls k6 _ _ y328 (rdOf ByteArray.empty x3_5 x9_6) false _ (by repeat (first | exact (by repeat (first | (with_reducible exact HR331.out) | (with_reducible refine Kd.C_alloc ?_ _) | (with_reducible refine Kd.C_drewN ?_ _) | (with_reducible refine Kd.C_drew ?_) | exact HR331.out)) | (with_reducible refine Kd.C_alloc ?_ _) | (with_reducible refine Kd.C_drewN ?_ _) | (with_reducible refine Kd.C_drew ?_))) HC331.out A39.out).mono ?_
             rintro e w' ⟨rfl, ⟨nd, rfl⟩⟩
             refine ⟨_, rfl, ?_⟩
             refine hK.out _ _ ⟨hHeld.1, hHeld.2⟩ (fun hHeld => ?_)
             clear hK K
             refine norm_ (a' := ?_) ?_ ?_
             rotate_left
             ·show Act.put _ (some 110) _ = _
              simp only [Act.put, List.setIfInBounds_toArray, List.set_cons_zero, List.set_cons_succ, i64_w, i32_w]
              rfl
             refine pS 15 (some 111) HT_ ?_
             refine done_ (done_of HT_.out (by kernel_rfl)) ?_
             try go_wp2
             go_roundg k6
             case measure => have := HK1.out; have := HK2.out; have := HK3.out; have := HK4.out; have := HK5.out; have := HK6.out; omega
             case rel => exact ⟨(wrap64 (x9_6 + 1)), tQ, H', ⟨by have := HK1.out; have := HK2.out; have := HK3.out; have := HK4.out; have := HK5.out; have := HK6.out; omega⟩, ⟨kR HO_3⟩, ⟨kK BK305⟩, ⟨kB1 HB GE305⟩⟩
end Go.Proofs.Ytpdmnineampimaa.Q
