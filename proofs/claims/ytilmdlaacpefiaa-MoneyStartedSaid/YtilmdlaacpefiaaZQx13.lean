import Derived.Test.YtilmdlaacpefiaaZe
import Derived.Test.YtilmdlaacpefiaaZQx10
import Derived.Test.YtilmdlaacpefiaaZQx11
import Derived.Test.YtilmdlaacpefiaaZQx12
set_option linter.unusedVariables false
set_option linter.unusedSimpArgs false
set_option linter.unusedSectionVars false
namespace Go.Proofs.Ytilmdlaacpefiaa.Q
open Go.RowKit Go.Proofs.YtilmdlaacpefiaaW.PrintWords Go.Proofs.YtilmdlaacpefiaaW.PrintLast Go.Proofs.YtilmdlaacpefiaaW.PrintMore
attribute [local go_sem] max2_int min2_int max_two min_two max_three min_three max_four min_four
def w31_head.f (k : Nat)  : Option (Bool) := (money_Times.f 3000 12345 1000).bind fun bt103 => ((money_Times.f 1 1 2).bind fun bt105 => ((money_Times.f 1 1 3).bind fun bt107 => ((money_Started.f 500 61 30).bind fun bt109 => ((money_Tax.f 10001 1900).bind fun bt111 => ((money_Split.f 100 (([1, 1, 1] : List Int))).bind fun bt116 => ((money_Split.f 10 (([1, 2, 0] : List Int))).bind fun bt123 => ((money_Times.f 1000000000 2 1).bind fun bt127 => ((money_Split.f 5 (([0] : List Int))).bind fun bt132 => ((money_Times.f 1 1 0).bind fun bt136 => (if bt103.2 = 0 then (if bt105.2 = 0 then (if bt107.2 = 0 then (if bt109.2 = 0 then (if bt111.2 = 0 then (if bt116.2 = 0 then (if bt123.2 = 0 then (if bt127.2 = 3 then (if bt132.2 = 1 then (if bt136.2 = 1 then (if bt103.1 = 37035 then (if bt105.1 = 1 then (if bt107.1 = 0 then (if bt109.1 = 1500 then (if bt111.1 = 1900 then ((r31_Ints.f k bt116.1 (([34, 33, 33] : List Int))).bind fun t141 => (if t141 = true then ((r31_Ints.f k bt123.1 (([3, 7, 0] : List Int))).bind fun t145 => (some t145)) else (some false))) else (some false)) else (some false)) else (some false)) else (some false)) else (some false)) else (some false)) else (some false)) else (some false)) else (some false)) else (some false)) else (some false)) else (some false)) else (some false)) else (some false)) else (some false)))))))))))
theorem w31_head.mono : ∀ k, LeO (w31_head.f k ) (w31_head.f (k + 1) ) := by
  intro  k
  unfold w31_head.f
  repeat' first | (with_reducible exact r31_Ints.mono _ _ _) | (with_reducible exact LeO.refl _) | (with_reducible exact LeO.none _) | (with_reducible refine LeO.ite ?_ ?_) | (with_reducible refine LeO.bind ?_ (fun _ => ?_))
theorem w31_head.only {k : Nat} {r : Bool} (h : w31_head.f k = some r) : r = true := by
 have h12 : w31_head.f 12 = some true := by decide +kernel
 have up : ∀ (d k : Nat) (v : Bool), w31_head.f k = some v → w31_head.f (k + d) = some v := by
  intro d
  induction d with
  | zero => exact fun _ _ h => h
  | succ d ih => exact fun k v h => w31_head.mono (k + d) v (ih k v h)
 have a := up 12 k r h
 have b := up k 12 true h12
 rw [Nat.add_comm 12 k, a] at b
 exact Option.some.inj b
set_option maxHeartbeats 8000000 in
set_option maxRecDepth 100000 in
theorem w31_head.calls (k : Nat)  (r : Bool) (w : World) (h : w31_head.f k  = some r) :
    Calls Try.prog 10 #[] w fun e w' => e = .returned (.bool r) ∧ Below w.heap.size w w' := by
 have hr_ := w31_head.only h
 have HB := Aside0.mk (Below.refl w.heap.size w)
 (try unfold w31_head.f at h)
 have H := h
 clear h
 obtain ⟨⟨t103, t104⟩, A1, H⟩ := bnd H
 dsimp only at H
 obtain ⟨⟨t105, t106⟩, A2, H⟩ := bnd H
 dsimp only at H
 obtain ⟨⟨t107, t108⟩, A3, H⟩ := bnd H
 dsimp only at H
 obtain ⟨⟨t109, t110⟩, A4, H⟩ := bnd H
 dsimp only at H
 obtain ⟨⟨t111, t112⟩, A5, H⟩ := bnd H
 dsimp only at H
 obtain ⟨y113, hy113⟩ : ∃ y_ : List Int, y_ = (([1, 1, 1] : List Int)) := ⟨_, rfl⟩
 replace H : ((money_Split.f 100 y113).bind fun bt116 => ((money_Split.f 10 (([1, 2, 0] : List Int))).bind fun bt123 => ((money_Times.f 1000000000 2 1).bind fun bt127 => ((money_Split.f 5 (([0] : List Int))).bind fun bt132 => ((money_Times.f 1 1 0).bind fun bt136 => (if t104 = 0 then (if t106 = 0 then (if t108 = 0 then (if t110 = 0 then (if t112 = 0 then (if bt116.2 = 0 then (if bt123.2 = 0 then (if bt127.2 = 3 then (if bt132.2 = 1 then (if bt136.2 = 1 then (if t103 = 37035 then (if t105 = 1 then (if t107 = 0 then (if t109 = 1500 then (if t111 = 1900 then ((r31_Ints.f k bt116.1 (([34, 33, 33] : List Int))).bind fun t141 => (if t141 = true then ((r31_Ints.f k bt123.1 (([3, 7, 0] : List Int))).bind fun t145 => (some t145)) else (some false))) else (some false)) else (some false)) else (some false)) else (some false)) else (some false)) else (some false)) else (some false)) else (some false)) else (some false)) else (some false)) else (some false)) else (some false)) else (some false)) else (some false)) else (some false))))))) = some r := by first | (rw [hy113]; with_reducible exact H) | (have H2_ := (Option.bind_some _ _).symm.trans H; rw [hy113]; with_reducible exact H2_) | (have H2_ := (Option.bind_some _ _).symm.trans H; with_reducible exact H2_) | with_reducible exact H | (rw [hy113]; exact H) | exact H
 have Ny113 := Aside0.mk hy113
 clear hy113
 obtain ⟨⟨t116, t117⟩, A6, H⟩ := bnd H
 dsimp only at H
 obtain ⟨y120, hy120⟩ : ∃ y_ : List Int, y_ = (([1, 2, 0] : List Int)) := ⟨_, rfl⟩
 replace H : ((money_Split.f 10 y120).bind fun bt123 => ((money_Times.f 1000000000 2 1).bind fun bt127 => ((money_Split.f 5 (([0] : List Int))).bind fun bt132 => ((money_Times.f 1 1 0).bind fun bt136 => (if t104 = 0 then (if t106 = 0 then (if t108 = 0 then (if t110 = 0 then (if t112 = 0 then (if t117 = 0 then (if bt123.2 = 0 then (if bt127.2 = 3 then (if bt132.2 = 1 then (if bt136.2 = 1 then (if t103 = 37035 then (if t105 = 1 then (if t107 = 0 then (if t109 = 1500 then (if t111 = 1900 then ((r31_Ints.f k t116 (([34, 33, 33] : List Int))).bind fun t141 => (if t141 = true then ((r31_Ints.f k bt123.1 (([3, 7, 0] : List Int))).bind fun t145 => (some t145)) else (some false))) else (some false)) else (some false)) else (some false)) else (some false)) else (some false)) else (some false)) else (some false)) else (some false)) else (some false)) else (some false)) else (some false)) else (some false)) else (some false)) else (some false)) else (some false)))))) = some r := by first | (rw [hy120]; with_reducible exact H) | (have H2_ := (Option.bind_some _ _).symm.trans H; rw [hy120]; with_reducible exact H2_) | (have H2_ := (Option.bind_some _ _).symm.trans H; with_reducible exact H2_) | with_reducible exact H | (rw [hy120]; exact H) | exact H
 have Ny120 := Aside0.mk hy120
 clear hy120
 obtain ⟨⟨t123, t124⟩, A7, H⟩ := bnd H
 dsimp only at H
 obtain ⟨⟨t127, t128⟩, A8, H⟩ := bnd H
 dsimp only at H
 obtain ⟨y129, hy129⟩ : ∃ y_ : List Int, y_ = (([0] : List Int)) := ⟨_, rfl⟩
 replace H : ((money_Split.f 5 y129).bind fun bt132 => ((money_Times.f 1 1 0).bind fun bt136 => (if t104 = 0 then (if t106 = 0 then (if t108 = 0 then (if t110 = 0 then (if t112 = 0 then (if t117 = 0 then (if t124 = 0 then (if t128 = 3 then (if bt132.2 = 1 then (if bt136.2 = 1 then (if t103 = 37035 then (if t105 = 1 then (if t107 = 0 then (if t109 = 1500 then (if t111 = 1900 then ((r31_Ints.f k t116 (([34, 33, 33] : List Int))).bind fun t141 => (if t141 = true then ((r31_Ints.f k t123 (([3, 7, 0] : List Int))).bind fun t145 => (some t145)) else (some false))) else (some false)) else (some false)) else (some false)) else (some false)) else (some false)) else (some false)) else (some false)) else (some false)) else (some false)) else (some false)) else (some false)) else (some false)) else (some false)) else (some false)) else (some false)))) = some r := by first | (rw [hy129]; with_reducible exact H) | (have H2_ := (Option.bind_some _ _).symm.trans H; rw [hy129]; with_reducible exact H2_) | (have H2_ := (Option.bind_some _ _).symm.trans H; with_reducible exact H2_) | with_reducible exact H | (rw [hy129]; exact H) | exact H
 have Ny129 := Aside0.mk hy129
 clear hy129
 obtain ⟨⟨t132, t133⟩, A9, H⟩ := bnd H
 dsimp only at H
 obtain ⟨⟨t136, t137⟩, A10, H⟩ := bnd H
 dsimp only at H
 by_cases c11 : t104 = 0
 rotate_left
 ·rw [if_neg c11] at H
  first | (rw [hr_] at H; exact absurd H (by simp)) | (rw [hr_] at H; revert H; cases k <;> simp [w31_head.j0])
 rw [if_pos c11] at H
 have c11b0 : (t104 == 0) = true := beq_iff_eq.mpr c11
 have c11b1 : (t104 != 0) = false := bne_eq_false_iff_eq.mpr c11
 clear c11
 by_cases c12 : t106 = 0
 rotate_left
 ·rw [if_neg c12] at H
  first | (rw [hr_] at H; exact absurd H (by simp)) | (rw [hr_] at H; revert H; cases k <;> simp [w31_head.j0])
 rw [if_pos c12] at H
 have c12b0 : (t106 == 0) = true := beq_iff_eq.mpr c12
 have c12b1 : (t106 != 0) = false := bne_eq_false_iff_eq.mpr c12
 clear c12
 by_cases c13 : t108 = 0
 rotate_left
 ·rw [if_neg c13] at H
  first | (rw [hr_] at H; exact absurd H (by simp)) | (rw [hr_] at H; revert H; cases k <;> simp [w31_head.j0])
 rw [if_pos c13] at H
 have c13b0 : (t108 == 0) = true := beq_iff_eq.mpr c13
 have c13b1 : (t108 != 0) = false := bne_eq_false_iff_eq.mpr c13
 clear c13
 by_cases c14 : t110 = 0
 rotate_left
 ·rw [if_neg c14] at H
  first | (rw [hr_] at H; exact absurd H (by simp)) | (rw [hr_] at H; revert H; cases k <;> simp [w31_head.j0])
 rw [if_pos c14] at H
 have c14b0 : (t110 == 0) = true := beq_iff_eq.mpr c14
 have c14b1 : (t110 != 0) = false := bne_eq_false_iff_eq.mpr c14
 clear c14
 by_cases c15 : t112 = 0
 rotate_left
 ·rw [if_neg c15] at H
  first | (rw [hr_] at H; exact absurd H (by simp)) | (rw [hr_] at H; revert H; cases k <;> simp [w31_head.j0])
 rw [if_pos c15] at H
 have c15b0 : (t112 == 0) = true := beq_iff_eq.mpr c15
 have c15b1 : (t112 != 0) = false := bne_eq_false_iff_eq.mpr c15
 clear c15
 by_cases c16 : t117 = 0
 rotate_left
 ·rw [if_neg c16] at H
  first | (rw [hr_] at H; exact absurd H (by simp)) | (rw [hr_] at H; revert H; cases k <;> simp [w31_head.j0])
 rw [if_pos c16] at H
 have c16b0 : (t117 == 0) = true := beq_iff_eq.mpr c16
 have c16b1 : (t117 != 0) = false := bne_eq_false_iff_eq.mpr c16
 clear c16
 by_cases c17 : t124 = 0
 rotate_left
 ·rw [if_neg c17] at H
  first | (rw [hr_] at H; exact absurd H (by simp)) | (rw [hr_] at H; revert H; cases k <;> simp [w31_head.j0])
 rw [if_pos c17] at H
 have c17b0 : (t124 == 0) = true := beq_iff_eq.mpr c17
 have c17b1 : (t124 != 0) = false := bne_eq_false_iff_eq.mpr c17
 clear c17
 by_cases c18 : t128 = 3
 rotate_left
 ·rw [if_neg c18] at H
  first | (rw [hr_] at H; exact absurd H (by simp)) | (rw [hr_] at H; revert H; cases k <;> simp [w31_head.j0])
 rw [if_pos c18] at H
 have c18b0 : (t128 == 3) = true := beq_iff_eq.mpr c18
 have c18b1 : (t128 != 3) = false := bne_eq_false_iff_eq.mpr c18
 clear c18
 by_cases c19 : t133 = 1
 rotate_left
 ·rw [if_neg c19] at H
  first | (rw [hr_] at H; exact absurd H (by simp)) | (rw [hr_] at H; revert H; cases k <;> simp [w31_head.j0])
 rw [if_pos c19] at H
 have c19b0 : (t133 == 1) = true := beq_iff_eq.mpr c19
 have c19b1 : (t133 != 1) = false := bne_eq_false_iff_eq.mpr c19
 clear c19
 by_cases c20 : t137 = 1
 rotate_left
 ·rw [if_neg c20] at H
  first | (rw [hr_] at H; exact absurd H (by simp)) | (rw [hr_] at H; revert H; cases k <;> simp [w31_head.j0])
 rw [if_pos c20] at H
 have c20b0 : (t137 == 1) = true := beq_iff_eq.mpr c20
 have c20b1 : (t137 != 1) = false := bne_eq_false_iff_eq.mpr c20
 clear c20
 by_cases c21 : t103 = 37035
 rotate_left
 ·rw [if_neg c21] at H
  first | (rw [hr_] at H; exact absurd H (by simp)) | (rw [hr_] at H; revert H; cases k <;> simp [w31_head.j0])
 rw [if_pos c21] at H
 have c21b0 : (t103 == 37035) = true := beq_iff_eq.mpr c21
 have c21b1 : (t103 != 37035) = false := bne_eq_false_iff_eq.mpr c21
 clear c21
 by_cases c22 : t105 = 1
 rotate_left
 ·rw [if_neg c22] at H
  first | (rw [hr_] at H; exact absurd H (by simp)) | (rw [hr_] at H; revert H; cases k <;> simp [w31_head.j0])
 rw [if_pos c22] at H
 have c22b0 : (t105 == 1) = true := beq_iff_eq.mpr c22
 have c22b1 : (t105 != 1) = false := bne_eq_false_iff_eq.mpr c22
 clear c22
 by_cases c23 : t107 = 0
 rotate_left
 ·rw [if_neg c23] at H
  first | (rw [hr_] at H; exact absurd H (by simp)) | (rw [hr_] at H; revert H; cases k <;> simp [w31_head.j0])
 rw [if_pos c23] at H
 have c23b0 : (t107 == 0) = true := beq_iff_eq.mpr c23
 have c23b1 : (t107 != 0) = false := bne_eq_false_iff_eq.mpr c23
 clear c23
 by_cases c24 : t109 = 1500
 rotate_left
 ·rw [if_neg c24] at H
  first | (rw [hr_] at H; exact absurd H (by simp)) | (rw [hr_] at H; revert H; cases k <;> simp [w31_head.j0])
 rw [if_pos c24] at H
 have c24b0 : (t109 == 1500) = true := beq_iff_eq.mpr c24
 have c24b1 : (t109 != 1500) = false := bne_eq_false_iff_eq.mpr c24
 clear c24
 by_cases c25 : t111 = 1900
 rotate_left
 ·rw [if_neg c25] at H
  first | (rw [hr_] at H; exact absurd H (by simp)) | (rw [hr_] at H; revert H; cases k <;> simp [w31_head.j0])
 rw [if_pos c25] at H
 have c25b0 : (t111 == 1900) = true := beq_iff_eq.mpr c25
 have c25b1 : (t111 != 1900) = false := bne_eq_false_iff_eq.mpr c25
 clear c25
 obtain ⟨y138, hy138⟩ : ∃ y_ : List Int, y_ = (([34, 33, 33] : List Int)) := ⟨_, rfl⟩
 replace H : ((r31_Ints.f k t116 y138).bind fun t141 => (if t141 = true then ((r31_Ints.f k t123 (([3, 7, 0] : List Int))).bind fun t145 => (some t145)) else (some false))) = some r := by first | (rw [hy138]; with_reducible exact H) | (have H2_ := (Option.bind_some _ _).symm.trans H; rw [hy138]; with_reducible exact H2_) | (have H2_ := (Option.bind_some _ _).symm.trans H; with_reducible exact H2_) | with_reducible exact H | (rw [hy138]; exact H) | exact H
 have Ny138 := Aside0.mk hy138
 clear hy138
 obtain ⟨t141, A26, H⟩ := bnd H
 by_cases c27 : t141 = true
 rotate_left
 ·replace c27 := Bool.eq_false_iff.mpr c27
  subst c27
  replace H := ifF H
  exact absurd H (by rw [hr_]; simp)
 subst c27
 replace H := ifT H
 obtain ⟨y142, hy142⟩ : ∃ y_ : List Int, y_ = (([3, 7, 0] : List Int)) := ⟨_, rfl⟩
 replace H : ((r31_Ints.f k t123 y142).bind fun t145 => (some t145)) = some r := by first | (rw [hy142]; with_reducible exact H) | (have H2_ := (Option.bind_some _ _).symm.trans H; rw [hy142]; with_reducible exact H2_) | (have H2_ := (Option.bind_some _ _).symm.trans H; with_reducible exact H2_) | with_reducible exact H | (rw [hy142]; exact H) | exact H
 have Ny142 := Aside0.mk hy142
 clear hy142
 obtain ⟨t145, A28, H⟩ := bnd H
 obtain rfl := Option.some.inj H
 go_enter Try.func10, Try.ntmps10
 go_wp2_with (first | ((with_reducible refine gate_callee (f := 11) rfl ?_); refine gL (some 22) Try.func11 #[.int .i64 3000, .int .i64 12345, .int .i64 1000] (money_Times.calls 3000 12345 1000 t103 t104 _ A1.out) ?_; rintro e w29 ⟨rfl, hb⟩; refine ⟨_, rfl, ?_⟩; replace HB := bS (kB HB) hb) | ((with_reducible refine gate_callee (f := 11) rfl ?_); refine gL (some 26) Try.func11 #[.int .i64 1, .int .i64 1, .int .i64 2] (money_Times.calls 1 1 2 t105 t106 _ A2.out) ?_; rintro e w30 ⟨rfl, hb⟩; refine ⟨_, rfl, ?_⟩; replace HB := bS (kB HB) hb) | ((with_reducible refine gate_callee (f := 11) rfl ?_); refine gL (some 30) Try.func11 #[.int .i64 1, .int .i64 1, .int .i64 3] (money_Times.calls 1 1 3 t107 t108 _ A3.out) ?_; rintro e w31 ⟨rfl, hb⟩; refine ⟨_, rfl, ?_⟩; replace HB := bS (kB HB) hb) | ((with_reducible refine gate_callee (f := 13) rfl ?_); refine gL (some 34) Try.func13 #[.int .i64 500, .int .i64 61, .int .i64 30] (money_Started.calls 500 61 30 t109 t110 _ A4.out) ?_; rintro e w32 ⟨rfl, hb⟩; refine ⟨_, rfl, ?_⟩; replace HB := bS (kB HB) hb) | ((with_reducible refine gate_callee (f := 15) rfl ?_); refine gL (some 38) Try.func15 #[.int .i64 10001, .int .i64 1900] (money_Tax.calls 10001 1900 t111 t112 _ A5.out) ?_; rintro e w33 ⟨rfl, hb⟩; refine ⟨_, rfl, ?_⟩; replace HB := bS (kB HB) hb) | ((with_reducible refine gate_dst (N := 42) rfl ?_); (try (refine gate_guard (by rfl) ?_; dsimp only)); refine Kd.R_lit (Kd.int .i64) _ 3 ?hg (N := 42) ?hd (xs := ([1, 1, 1] : List Int)) (inner := [.int .i64 1, .int .i64 1, .int .i64 1]) (ok := fun _ => True) (okp := fun _ => True) ?hr ?hp (fun _ hk => hk) trivial (Below.refl _ _) (Nat.le_refl _) (by simp) ?_; (case hd => rfl); (case hg => rfl); (case hr => first | (go_simp; done) | (go_simp; rfl)); (case hp => exact (Reps.one (show Kd.M (Kd.int .i64) _ _ _ 1 [.int .i64 1] from rfl) (Reps.one (show Kd.M (Kd.int .i64) _ _ _ 1 [.int .i64 1] from rfl) (Reps.one (show Kd.M (Kd.int .i64) _ _ _ 1 [.int .i64 1] from rfl) (Reps.none _ _))))); intro v114 w34 ho35 hb hg_ hnew_; clear hg_ hnew_; (first | rw [← Ny113.out] at ho35 | (simp only [Int.reduceToNat] at ho35; rw [← Ny113.out] at ho35)); have HO115 := Aside0.mk (Kd.R_lower ho35 (below_size (kB HB))); replace HB := bS (kB HB) hb; clear hb ho35; obtain ⟨Ao36, co36, eo36⟩ := Kd.R_slice HO115.out; subst eo36) | ((with_reducible refine gate_callee (f := 17) rfl ?_); refine gL (some 43) Try.func17 #[.int .i64 100, .slice Ao36 y113.length co36] (money_Split.calls 100 _ _ y113 t116 t117 _ (kC (Kd.R_reads' HO115.out).2.2) ((Kd.R_reads' HO115.out).2.1) A6.out) ?_; rintro e w37 ⟨v118, rfl, ho0, hb⟩; refine ⟨_, rfl, ?_⟩; have HO119 := Aside0.mk (Kd.R_lower (Kd.R_new' ho0 (Kd.R_lt (kR HO115))) (below_size (kB HB))); replace HO115 := Aside0.mk (Kd.R_elder' (kR HO115) (Kd.R_base ho0) hb); replace HB := bS (kB HB) hb) | ((with_reducible refine gate_dst (N := 47) rfl ?_); (try (refine gate_guard (by rfl) ?_; dsimp only)); refine Kd.R_lit (Kd.int .i64) _ 3 ?hg (N := 47) ?hd (xs := ([1, 2, 0] : List Int)) (inner := [.int .i64 1, .int .i64 2, .int .i64 0]) (ok := fun _ => True) (okp := fun _ => True) ?hr ?hp (fun _ hk => hk) trivial (Below.refl _ _) (Nat.le_refl _) (by simp) ?_; (case hd => rfl); (case hg => rfl); (case hr => first | (go_simp; done) | (go_simp; rfl)); (case hp => exact (Reps.one (show Kd.M (Kd.int .i64) _ _ _ 1 [.int .i64 1] from rfl) (Reps.one (show Kd.M (Kd.int .i64) _ _ _ 2 [.int .i64 2] from rfl) (Reps.one (show Kd.M (Kd.int .i64) _ _ _ 0 [.int .i64 0] from rfl) (Reps.none _ _))))); intro v121 w38 ho39 hb hg_ hnew_; clear hg_ hnew_; (first | rw [← Ny120.out] at ho39 | (simp only [Int.reduceToNat] at ho39; rw [← Ny120.out] at ho39)); have HO122 := Aside0.mk (Kd.R_lower (Kd.R_new' (Kd.R_new' ho39 (Kd.R_lt (kR HO115))) (Kd.R_lt (kR HO119))) (below_size (kB HB))); replace HO115 := Aside0.mk (Kd.R_elder' (kR HO115) (Kd.R_base ho39) hb); replace HO119 := Aside0.mk (Kd.R_elder' (kR HO119) (Kd.R_base ho39) hb); replace HB := bS (kB HB) hb; clear hb ho39; obtain ⟨Ao40, co40, eo40⟩ := Kd.R_slice HO122.out; subst eo40) | ((with_reducible refine gate_callee (f := 17) rfl ?_); refine gL (some 48) Try.func17 #[.int .i64 10, .slice Ao40 y120.length co40] (money_Split.calls 10 _ _ y120 t123 t124 _ (kC (Kd.R_reads' HO122.out).2.2) ((Kd.R_reads' HO122.out).2.1) A7.out) ?_; rintro e w41 ⟨v125, rfl, ho0, hb⟩; refine ⟨_, rfl, ?_⟩; have HO126 := Aside0.mk (Kd.R_lower (Kd.R_new' (Kd.R_new' (Kd.R_new' ho0 (Kd.R_lt (kR HO115))) (Kd.R_lt (kR HO119))) (Kd.R_lt (kR HO122))) (below_size (kB HB))); replace HO115 := Aside0.mk (Kd.R_elder' (kR HO115) (Kd.R_base ho0) hb); replace HO119 := Aside0.mk (Kd.R_elder' (kR HO119) (Kd.R_base ho0) hb); replace HO122 := Aside0.mk (Kd.R_elder' (kR HO122) (Kd.R_base ho0) hb); replace HB := bS (kB HB) hb) | ((with_reducible refine gate_callee (f := 11) rfl ?_); refine gL (some 52) Try.func11 #[.int .i64 1000000000, .int .i64 2, .int .i64 1] (money_Times.calls 1000000000 2 1 t127 t128 _ A8.out) ?_; rintro e w42 ⟨rfl, hb⟩; refine ⟨_, rfl, ?_⟩; replace HO115 := Aside0.mk (Kd.R_below (kR HO115) hb); replace HO119 := Aside0.mk (Kd.R_below (kR HO119) hb); replace HO122 := Aside0.mk (Kd.R_below (kR HO122) hb); replace HO126 := Aside0.mk (Kd.R_below (kR HO126) hb); replace HB := bS (kB HB) hb) | ((with_reducible refine gate_dst (N := 56) rfl ?_); (try (refine gate_guard (by rfl) ?_; dsimp only)); refine Kd.R_lit (Kd.int .i64) _ 3 ?hg (N := 56) ?hd (xs := ([0] : List Int)) (inner := [.int .i64 0]) (ok := fun _ => True) (okp := fun _ => True) ?hr ?hp (fun _ hk => hk) trivial (Below.refl _ _) (Nat.le_refl _) (by simp) ?_; (case hd => rfl); (case hg => rfl); (case hr => first | (go_simp; done) | (go_simp; rfl)); (case hp => exact (Reps.one (show Kd.M (Kd.int .i64) _ _ _ 0 [.int .i64 0] from rfl) (Reps.none _ _))); intro v130 w43 ho44 hb hg_ hnew_; clear hg_ hnew_; (first | rw [← Ny129.out] at ho44 | (simp only [Int.reduceToNat] at ho44; rw [← Ny129.out] at ho44)); have HO131 := Aside0.mk (Kd.R_lower (Kd.R_new' (Kd.R_new' (Kd.R_new' (Kd.R_new' ho44 (Kd.R_lt (kR HO115))) (Kd.R_lt (kR HO119))) (Kd.R_lt (kR HO122))) (Kd.R_lt (kR HO126))) (below_size (kB HB))); replace HO115 := Aside0.mk (Kd.R_elder' (kR HO115) (Kd.R_base ho44) hb); replace HO119 := Aside0.mk (Kd.R_elder' (kR HO119) (Kd.R_base ho44) hb); replace HO122 := Aside0.mk (Kd.R_elder' (kR HO122) (Kd.R_base ho44) hb); replace HO126 := Aside0.mk (Kd.R_elder' (kR HO126) (Kd.R_base ho44) hb); replace HB := bS (kB HB) hb; clear hb ho44; obtain ⟨Ao45, co45, eo45⟩ := Kd.R_slice HO131.out; subst eo45) | ((with_reducible refine gate_callee (f := 17) rfl ?_); refine gL (some 57) Try.func17 #[.int .i64 5, .slice Ao45 y129.length co45] (money_Split.calls 5 _ _ y129 t132 t133 _ (kC (Kd.R_reads' HO131.out).2.2) ((Kd.R_reads' HO131.out).2.1) A9.out) ?_; rintro e w46 ⟨v134, rfl, ho0, hb⟩; refine ⟨_, rfl, ?_⟩; have HO135 := Aside0.mk (Kd.R_lower (Kd.R_new' (Kd.R_new' (Kd.R_new' (Kd.R_new' (Kd.R_new' ho0 (Kd.R_lt (kR HO115))) (Kd.R_lt (kR HO119))) (Kd.R_lt (kR HO122))) (Kd.R_lt (kR HO126))) (Kd.R_lt (kR HO131))) (below_size (kB HB))); replace HO115 := Aside0.mk (Kd.R_elder' (kR HO115) (Kd.R_base ho0) hb); replace HO119 := Aside0.mk (Kd.R_elder' (kR HO119) (Kd.R_base ho0) hb); replace HO122 := Aside0.mk (Kd.R_elder' (kR HO122) (Kd.R_base ho0) hb); replace HO126 := Aside0.mk (Kd.R_elder' (kR HO126) (Kd.R_base ho0) hb); replace HO131 := Aside0.mk (Kd.R_elder' (kR HO131) (Kd.R_base ho0) hb); replace HB := bS (kB HB) hb) | ((with_reducible refine gate_callee (f := 11) rfl ?_); refine gL (some 61) Try.func11 #[.int .i64 1, .int .i64 1, .int .i64 0] (money_Times.calls 1 1 0 t136 t137 _ A10.out) ?_; rintro e w47 ⟨rfl, hb⟩; refine ⟨_, rfl, ?_⟩; replace HO115 := Aside0.mk (Kd.R_below (kR HO115) hb); replace HO119 := Aside0.mk (Kd.R_below (kR HO119) hb); replace HO122 := Aside0.mk (Kd.R_below (kR HO122) hb); replace HO126 := Aside0.mk (Kd.R_below (kR HO126) hb); replace HO131 := Aside0.mk (Kd.R_below (kR HO131) hb); replace HO135 := Aside0.mk (Kd.R_below (kR HO135) hb); replace HB := bS (kB HB) hb) | ((with_reducible refine gate_dst (N := 124) rfl ?_); (try (refine gate_guard (by rfl) ?_; dsimp only)); refine Kd.R_lit (Kd.int .i64) _ 3 ?hg (N := 124) ?hd (xs := ([34, 33, 33] : List Int)) (inner := [.int .i64 34, .int .i64 33, .int .i64 33]) (ok := fun _ => True) (okp := fun _ => True) ?hr ?hp (fun _ hk => hk) trivial (Below.refl _ _) (Nat.le_refl _) (by simp) ?_; (case hd => rfl); (case hg => rfl); (case hr => first | (go_simp; done) | (go_simp; rfl)); (case hp => exact (Reps.one (show Kd.M (Kd.int .i64) _ _ _ 34 [.int .i64 34] from rfl) (Reps.one (show Kd.M (Kd.int .i64) _ _ _ 33 [.int .i64 33] from rfl) (Reps.one (show Kd.M (Kd.int .i64) _ _ _ 33 [.int .i64 33] from rfl) (Reps.none _ _))))); intro v139 w48 ho49 hb hg_ hnew_; clear hg_ hnew_; (first | rw [← Ny138.out] at ho49 | (simp only [Int.reduceToNat] at ho49; rw [← Ny138.out] at ho49)); have HO140 := Aside0.mk (Kd.R_lower (Kd.R_new' (Kd.R_new' (Kd.R_new' (Kd.R_new' (Kd.R_new' (Kd.R_new' ho49 (Kd.R_lt (kR HO115))) (Kd.R_lt (kR HO119))) (Kd.R_lt (kR HO122))) (Kd.R_lt (kR HO126))) (Kd.R_lt (kR HO131))) (Kd.R_lt (kR HO135))) (below_size (kB HB))); replace HO115 := Aside0.mk (Kd.R_elder' (kR HO115) (Kd.R_base ho49) hb); replace HO119 := Aside0.mk (Kd.R_elder' (kR HO119) (Kd.R_base ho49) hb); replace HO122 := Aside0.mk (Kd.R_elder' (kR HO122) (Kd.R_base ho49) hb); replace HO126 := Aside0.mk (Kd.R_elder' (kR HO126) (Kd.R_base ho49) hb); replace HO131 := Aside0.mk (Kd.R_elder' (kR HO131) (Kd.R_base ho49) hb); replace HO135 := Aside0.mk (Kd.R_elder' (kR HO135) (Kd.R_base ho49) hb); replace HB := bS (kB HB) hb; clear hb ho49; obtain ⟨Ao50, co50, eo50⟩ := Kd.R_slice HO119.out; subst eo50; obtain ⟨Ao51, co51, eo51⟩ := Kd.R_slice HO140.out; subst eo51) | (go_at_call 19; (with_reducible refine (r31_Ints.calls k _ _ t116 _ _ y138 true _ (kC (Kd.R_reads' HO119.out).2.2) ((Kd.R_reads' HO119.out).2.1) (kC (Kd.R_reads' HO140.out).2.2) ((Kd.R_reads' HO140.out).2.1) A26.out).mono ?_); rintro e w' ⟨rfl, ⟨nd, rfl⟩⟩) | ((with_reducible refine gate_dst (N := 129) rfl ?_); (try (refine gate_guard (by rfl) ?_; dsimp only)); refine Kd.R_lit (Kd.int .i64) _ 3 ?hg (N := 129) ?hd (xs := ([3, 7, 0] : List Int)) (inner := [.int .i64 3, .int .i64 7, .int .i64 0]) (ok := fun _ => True) (okp := fun _ => True) ?hr ?hp (fun _ hk => hk) trivial (Below.refl _ _) (Nat.le_refl _) (by simp) ?_; (case hd => rfl); (case hg => rfl); (case hr => first | (go_simp; done) | (go_simp; rfl)); (case hp => exact (Reps.one (show Kd.M (Kd.int .i64) _ _ _ 3 [.int .i64 3] from rfl) (Reps.one (show Kd.M (Kd.int .i64) _ _ _ 7 [.int .i64 7] from rfl) (Reps.one (show Kd.M (Kd.int .i64) _ _ _ 0 [.int .i64 0] from rfl) (Reps.none _ _))))); intro v143 w52 ho53 hb hg_ hnew_; clear hg_ hnew_; (first | rw [← Ny142.out] at ho53 | (simp only [Int.reduceToNat] at ho53; rw [← Ny142.out] at ho53)); have HO144 := Aside0.mk (Kd.R_lower (Kd.R_new' (Kd.R_new' (Kd.R_new' (Kd.R_new' (Kd.R_new' (Kd.R_new' (Kd.R_new' ho53 (Kd.R_lt (kR HO115))) (Kd.R_lt (kR HO119))) (Kd.R_lt (kR HO122))) (Kd.R_lt (kR HO126))) (Kd.R_lt (kR HO131))) (Kd.R_lt (kR HO135))) (Kd.R_lt (kR HO140))) (below_size (kB HB))); replace HO115 := Aside0.mk (Kd.R_elder' (kR HO115) (Kd.R_base ho53) hb); replace HO119 := Aside0.mk (Kd.R_elder' (kR HO119) (Kd.R_base ho53) hb); replace HO122 := Aside0.mk (Kd.R_elder' (kR HO122) (Kd.R_base ho53) hb); replace HO126 := Aside0.mk (Kd.R_elder' (kR HO126) (Kd.R_base ho53) hb); replace HO131 := Aside0.mk (Kd.R_elder' (kR HO131) (Kd.R_base ho53) hb); replace HO135 := Aside0.mk (Kd.R_elder' (kR HO135) (Kd.R_base ho53) hb); replace HO140 := Aside0.mk (Kd.R_elder' (kR HO140) (Kd.R_base ho53) hb); replace HB := bS (kB HB) hb; clear hb ho53; obtain ⟨Ao54, co54, eo54⟩ := Kd.R_slice HO126.out; subst eo54; obtain ⟨Ao55, co55, eo55⟩ := Kd.R_slice HO144.out; subst eo55) | (go_at_call 19; (with_reducible refine (r31_Ints.calls k _ _ t123 _ _ y142 t145 _ (kC (Kd.R_reads' HO126.out).2.2) ((Kd.R_reads' HO126.out).2.1) (kC (Kd.R_reads' HO144.out).2.2) ((Kd.R_reads' HO144.out).2.1) A28.out).mono ?_); rintro e w' ⟨rfl, ⟨nd, rfl⟩⟩))
 go_ret
 exact ⟨tE, kB HB⟩
def r31_amount.f (a0 : Int) : Option (Bool) := if a0 ≥ 0 then (some (decide (a0 ≤ 1000000000))) else (some false)
set_option maxHeartbeats 8000000 in
set_option maxRecDepth 100000 in
theorem r31_amount.calls (a0 : Int) (r : Bool) (w : World) (h : r31_amount.f a0 = some r) :
    Calls Try.prog 24 #[.int .i64 a0] w fun e w' => e = .returned (.bool r) ∧ Drawn0 w w' := by
  have H : (if a0 ≥ 0 then (some (decide (a0 ≤ 1000000000))) else (some false)) = some r := h
  clear h
  by_cases c2 : a0 ≥ 0
  · rw [if_pos c2] at H
    have c2b0 : decide (0 ≤ a0) = true := decide_eq_true c2
    clear c2
    obtain rfl := Option.some.inj H
    go_enter Try.func24, Try.ntmps24
    go_wp2
    go_ret
    exact ⟨by first | rfl | (simp; done) | (simp [*]; done), by repeat (first | exact Drawn0.refl _ | apply Drawn0.step)⟩
  · rw [if_neg c2] at H
    have c2b0 : decide (0 ≤ a0) = false := decide_eq_false c2
    clear c2
    obtain rfl := Option.some.inj H
    go_enter Try.func24, Try.ntmps24
    go_wp2
    go_ret
    exact ⟨by first | rfl | (simp; done) | (simp [*]; done), by repeat (first | exact Drawn0.refl _ | apply Drawn0.step)⟩
end Go.Proofs.Ytilmdlaacpefiaa.Q
