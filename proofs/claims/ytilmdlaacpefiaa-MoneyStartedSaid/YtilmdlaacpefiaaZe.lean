import Derived.Test.YtilmdlaacpefiaaProg
import Derived.Below
import Derived.Deep.Draws
import Derived.Deep.AppendLies
import Derived.Maps.AppendAt
import Derived.OwnWalk
import Derived.Laws.BytesArg
import Derived.Laws.MakeOwn
import Derived.Laws.OwnMore
import Derived.Deep.OwnRows
import Derived.Tactics
import Derived.Lib.ConvBytes
import Derived.Laws.Slices
import Derived.WalkKit
import Derived.KernelRfl
import Derived.RowKit3
import Derived.Deep.LoopGhost
import Derived.Deep.QuietTactic
import Derived.BigQuiet
import Derived.WideLaws
import Derived.Deep.DeepCutAuto
import Derived.Deep.CutBlock
import Derived.Deep.RegionHeld3
import Derived.Laws.Rows
import Derived.Lib.AppendStr
import Derived.ArgAppend
import Derived.Laws.IdiomCopy
import Derived.OrdersHeld
import Derived.Laws.BitsLemmas
import Derived.RowKit
import Derived.Lib.Hide
import Derived.LoopTactic
import Derived.RangeFuncNested
import Derived.RangeFuncBound
import Derived.RangeFuncCalls
import Derived.RangeFuncLeaves
import Derived.Shelf.Abstract
import Derived.Shelf.RegionOpen
import Derived.OwnWalkIn
import Derived.TacticsInMore
import Derived.LoopNIn
import Derived.LoopIn
import Derived.ProofKit
import Derived.OpenShut
import Derived.ChangeOld
import Derived.SizedLaws
import Derived.Shelf.SlSortCmp.Insertion
import Derived.Sort.LotA
import Derived.Sort.Lot0
import Derived.Defers
import Derived.Recover
import Derived.Test.YtilmdlaacpefiaaZw
set_option linter.unusedVariables false
set_option linter.unusedSimpArgs false
set_option linter.unusedSectionVars false
namespace Go.Proofs.Ytilmdlaacpefiaa.Q
open Go.RowKit Go.Proofs.YtilmdlaacpefiaaW.PrintWords Go.Proofs.YtilmdlaacpefiaaW.PrintLast Go.Proofs.YtilmdlaacpefiaaW.PrintMore
attribute [local go_sem] max2_int min2_int max_two min_two max_three min_three max_four min_four
def errW : Option Int → Value
  | none => .nilIface
  | some c => .iface 0 (.int .i64 c)
theorem errW_none : errW none = .nilIface := rfl
theorem errW_some (c : Int) : errW (some c) = .iface 0 (.int .i64 c) := rfl
end Go.Proofs.Ytilmdlaacpefiaa.Q
namespace Go.Proofs.Ytilmdlaacpefiaa.Q
open Go.RowKit Go.Proofs.YtilmdlaacpefiaaW.PrintWords Go.Proofs.YtilmdlaacpefiaaW.PrintLast Go.Proofs.YtilmdlaacpefiaaW.PrintMore
attribute [local go_sem] max2_int min2_int max_two min_two max_three min_three max_four min_four
theorem kR {A B : Prop} (h : Aside0 A) (f : A → B := by intro h_; (with_reducible repeat (first | apply Kd.R_alloc | apply Kd.R_drewN | apply Kd.R_drew)); exact h_) : B := f h.out
theorem kB {A B : Prop} (h : Aside0 A) (f : A → B := by intro h_; repeat (first | (with_reducible first | exact h_ | apply below_alloc | apply pw_below_drewN | apply below_drew1) | exact h_)) : B := f h.out
theorem kB1 {A B G : Prop} (h : Aside0 A) (g : Aside0 G) (f : A → G → B := by intro h_ g_; repeat (first | (with_reducible first | exact h_ | apply below_alloc | apply pw_below_drewN | apply below_drew1 | refine below_set ?_ g_) | exact h_)) : B := f h.out g.out
theorem kB2 {A B G G2 : Prop} (h : Aside0 A) (g : Aside0 G) (g2 : Aside0 G2) (f : A → G → G2 → B := by intro h_ g_ g2_; repeat (first | (with_reducible first | exact h_ | apply below_alloc | apply pw_below_drewN | apply below_drew1 | refine below_set ?_ g_ | refine below_set ?_ g2_) | exact h_)) : B := f h.out g.out g2.out
theorem tQ {A : Prop} (h : A := by first | rfl | (simp; done) | (simp [*]; done) | (congr 1; unfold wrap64; omega)) : A := h
theorem tD {p : Prop} [Decidable p] (h : decide p = true := by first | (with_reducible assumption) | assumption) : p := of_decide_eq_true h
theorem cB {B : Nat} {w W : World} {a : Addr} {v : Value} (h : Aside0 (Below B w W)) (hx : w.cell? a = some v) (hB : B = w.heap.size := by exact rfl) : W.cell? a = some v := by
  subst hB
  exact (h.out.cell (World.block_lt_of_cell? w _ hx)).trans hx
theorem bx1 {w : World} {g : Nat} {t : TypeId} {v0 : Value} (h : Aside0 (w.heap[g]? = some (.cells #[v0] t (0, 0)))) : (w.cell? ⟨g, 0, none⟩ = some v0) ∧ w.frozen? ⟨g, 0, none⟩ = false :=
  ⟨(blk_cell h.out 0).trans rfl, blk_frozen h.out 0⟩
theorem kC {A B : Prop} (h : A) (f : A → B := by intro h_; repeat (first | exact h_ | (with_reducible refine Kd.C_alloc ?_ _) | (with_reducible refine Kd.C_drewN ?_ _) | (with_reducible refine Kd.C_drew ?_))) : B := f h
end Go.Proofs.Ytilmdlaacpefiaa.Q
namespace Go.Proofs.Ytilmdlaacpefiaa.Q
open Go.RowKit Go.Proofs.YtilmdlaacpefiaaW.PrintWords Go.Proofs.YtilmdlaacpefiaaW.PrintLast Go.Proofs.YtilmdlaacpefiaaW.PrintMore
attribute [local go_sem] max2_int min2_int max_two min_two max_three min_three max_four min_four
def errno (k : Int) : Value := .iface 24 (.int .i64 k)
def gone (k : Int) : List PanicEntry := [{ v := errno k, recovered := false }]
theorem need_ok (n lo hi : Int) (w : World) (h : lo ≤ n ∧ n ≤ hi) : Calls Try.prog 21 #[.int .i64 n, .int .i64 lo, .int .i64 hi] w fun e w' => e = .returned (.tuple #[]) ∧ w' = w := by
  have h1 : decide (n < lo) = false := decide_eq_false (by omega)
  have h2 : decide (n > hi) = false := decide_eq_false (by omega)
  clear h
  go_enter Try.func21, Try.ntmps21
  go_wp2
  exact ⟨rfl, .tuple #[], by simp [results, Try.results21, go_sem], rfl, rfl⟩
theorem need_bad (n lo hi : Int) (w : World) (h : ¬ (lo ≤ n ∧ n ≤ hi)) : Calls Try.prog 21 #[.int .i64 n, .int .i64 lo, .int .i64 hi] w fun e w' => e = .panicked (gone 1) ∧ w' = w := by
  by_cases c : n < lo
  · have h1 : decide (n < lo) = true := decide_eq_true c
    clear h c
    go_enter Try.func21, Try.ntmps21
    go_wp2
    exact ⟨rfl, rfl, rfl⟩
  · have h1 : decide (n < lo) = false := decide_eq_false c
    have h2 : decide (n > hi) = true := decide_eq_true (by omega)
    clear h c
    go_enter Try.func21, Try.ntmps21
    go_wp2
    exact ⟨rfl, rfl, rfl⟩
theorem amount_ok (n : Int) (w : World) (h : 0 ≤ n ∧ n ≤ 1000000000) : Calls Try.prog 22 #[.int .i64 n] w fun e w' => e = .returned (.int .i64 n) ∧ w' = w := by
  have h1 : decide (n < 0) = false := decide_eq_false (by omega)
  have h2 : decide (n > 1000000000) = false := decide_eq_false (by omega)
  clear h
  go_enter Try.func22, Try.ntmps22
  go_wp2
  go_ret
  exact ⟨rfl, rfl⟩
theorem amount_bad (n : Int) (w : World) (h : ¬ (0 ≤ n ∧ n ≤ 1000000000)) : Calls Try.prog 22 #[.int .i64 n] w fun e w' => e = .panicked (gone 3) ∧ w' = w := by
  by_cases c : n < 0
  · have h1 : decide (n < 0) = true := decide_eq_true c
    clear h c
    go_enter Try.func22, Try.ntmps22
    go_wp2
    exact ⟨rfl, rfl, rfl⟩
  · have h1 : decide (n < 0) = false := decide_eq_false c
    have h2 : decide (n > 1000000000) = true := decide_eq_true (by omega)
    clear h c
    go_enter Try.func22, Try.ntmps22
    go_wp2
    exact ⟨rfl, rfl, rfl⟩
theorem half_calls (n d : Int) (w : World) (h : d ≠ 0) (hn : 0 ≤ n ∧ n ≤ 1000000000000000000) (hd : 1 ≤ d ∧ d ≤ 1000000000) : Calls Try.prog 23 #[.int .i64 n, .int .i64 d] w fun e w' => e = .returned (.int .i64 ((2 * n + d) / (2 * d))) ∧ w' = w := by
  have e1 : wrap64 (2 * n) = 2 * n := by unfold wrap64; omega
  have e2 : wrap64 (2 * n + d) = 2 * n + d := by unfold wrap64; omega
  have e3 : wrap64 (2 * d) = 2 * d := by unfold wrap64; omega
  have e4 : (2 * n + d).tdiv (2 * d) = (2 * n + d) / (2 * d) := Int.tdiv_eq_ediv_of_nonneg (by omega)
  have e6 : 0 ≤ (2 * n + d) / (2 * d) := Int.ediv_nonneg (by omega) (by omega)
  have e7 : (2 * n + d) / (2 * d) ≤ 2 * n + d := Int.ediv_le_self _ (by omega)
  have e5 : wrap64 ((2 * n + d) / (2 * d)) = (2 * n + d) / (2 * d) := by unfold wrap64; omega
  have h2 : (2 * d == 0) = false := by simp; omega
  have h3 : (2 * d) ≠ 0 := by omega
  clear e6 e7
  go_enter Try.func23, Try.ntmps23
  go_wp2
  go_ret
  exact ⟨congrArg (fun z => Ending.returned (.int .i64 z)) e5, rfl⟩
theorem leave_idle (p q : Addr) (w : World) : CallsD Try.prog 20 #[.pointer (some p), .pointer (some q)] .returning w fun e u' w' => e = .returned (.tuple #[]) ∧ u' = .returning ∧ w' = w := by
  refine callsD_of_wpS Try.func20 rfl fun c₀ cs hu => ?_
  apply wpS_seq
  apply wpS_region
  simp [wpOpsS, go_sem, recoverD, hu, Try.ntmps20, Exit.thenS, Array.replicate]
  refine wpS_of_wp ?_
  go_wp2
  exact ⟨rfl, .returning, by cases c₀; simp_all, .tuple #[], by simp [results, Try.results20, go_sem], rfl, rfl, rfl⟩
theorem leave_errno (p q : Addr) (x y k : Int) (w : World) (hc : w.cell? p = some (.int .i64 x)) (hz : w.frozen? p = false) (hd : w.cell? q = some (.int .i64 y)) (hy : w.frozen? q = false) (hpq : p.block ≠ q.block) :
    CallsD Try.prog 20 #[.pointer (some p), .pointer (some q)] (.panicking (gone k)) w fun e u' w' =>
      e = .returned (.tuple #[]) ∧ settle u' = .returning ∧ w' = (w.setCell p (.int .i64 0)).setCell q (.int .i64 k) := by
  refine callsD_of_wpS Try.func20 rfl fun c₀ cs hu => ?_
  unfold gone errno at hu
  apply wpS_seq
  apply wpS_region
  simp [wpOpsS, go_sem, recoverD, hu, Try.ntmps20, Exit.thenS, Array.replicate]
  refine wpS_of_wp ?_
  have hd' : (w.setCell p (.int .i64 0)).cell? q = some (.int .i64 y) := (cell_far hpq.symm _).trans hd
  have hy' : (w.setCell p (.int .i64 0)).frozen? q = false := by simpa using hy
  have hta : ∀ (t : TypeId) (W : World), (Instr.typeAssert (.iface 24 (.int .i64 k)) t 24 true).run Try.prog W = .ok (.tuple #[.int .i64 k, .bool true]) W := fun _ _ => rfl
  go_wp2
  exact ⟨rfl, .panicking [{ v := errno k, recovered := true }], rfl, .tuple #[], by simp [results, Try.results20, go_sem], rfl, rfl, rfl⟩
set_option maxHeartbeats 4000000 in
theorem times_bad0 (a b c : Int) (w : World)  (k0 : ¬ (0 ≤ a ∧ a ≤ 1000000000)) : Calls Try.prog 11 #[.int .i64 a, .int .i64 b, .int .i64 c] w fun e w' => e = .returned (.tuple #[.int .i64 0, .int .i64 1]) ∧ Below w.heap.size w w' := by
  have h0 := fun W => need_bad a 0 1000000000 W k0
  clear k0
  go_enter_defers Try.func11, Try.ntmps11
  go_wp2_with (first | (go_at_call 21; (with_reducible refine (h0 _).mono ?_); rintro e w1 ⟨rfl, rfl⟩))
  refine leaves_cons (f := 20) (args := #[.pointer (some ⟨w.heap.size, 0, none⟩), .pointer (some ⟨w.heap.size + 1, 0, none⟩)]) (by simp) (by simp [go_sem]) ?_
  refine (leave_errno ⟨w.heap.size, 0, none⟩ ⟨w.heap.size + 1, 0, none⟩ 0 0 1 _ (by simp [go_sem]) (by simp [go_sem]) (by simp [go_sem]) (by simp [go_sem]) (by simp)).mono ?_
  rintro e u' w'' ⟨rfl, hs, rfl⟩
  show Leaves _ _ _ _ _ (settle u') _
  rw [hs]
  exact ⟨.tuple #[.int .i64 0, .int .i64 1], by simp [results, Try.results11, go_sem], rfl, by (with_reducible repeat (first | exact Below.refl _ _ | apply below_alloc | refine below_set ?_ ?_)); all_goals first | exact Nat.le_refl _ | exact Nat.le_succ _⟩
set_option maxHeartbeats 4000000 in
theorem times_bad1 (a b c : Int) (w : World) (k0 : 0 ≤ a ∧ a ≤ 1000000000) (k1 : ¬ (0 ≤ b ∧ b ≤ 1000000000)) : Calls Try.prog 11 #[.int .i64 a, .int .i64 b, .int .i64 c] w fun e w' => e = .returned (.tuple #[.int .i64 0, .int .i64 1]) ∧ Below w.heap.size w w' := by
  have h0 := fun W => need_ok a 0 1000000000 W k0
  have h1 := fun W => need_bad b 0 1000000000 W k1
  clear k0 k1
  go_enter_defers Try.func11, Try.ntmps11
  go_wp2_with (first | (go_at_call 21; (with_reducible refine (h0 _).mono ?_); rintro e w1 ⟨rfl, rfl⟩) | (go_at_call 21; (with_reducible refine (h1 _).mono ?_); rintro e w1 ⟨rfl, rfl⟩))
  refine leaves_cons (f := 20) (args := #[.pointer (some ⟨w.heap.size, 0, none⟩), .pointer (some ⟨w.heap.size + 1, 0, none⟩)]) (by simp) (by simp [go_sem]) ?_
  refine (leave_errno ⟨w.heap.size, 0, none⟩ ⟨w.heap.size + 1, 0, none⟩ 0 0 1 _ (by simp [go_sem]) (by simp [go_sem]) (by simp [go_sem]) (by simp [go_sem]) (by simp)).mono ?_
  rintro e u' w'' ⟨rfl, hs, rfl⟩
  show Leaves _ _ _ _ _ (settle u') _
  rw [hs]
  exact ⟨.tuple #[.int .i64 0, .int .i64 1], by simp [results, Try.results11, go_sem], rfl, by (with_reducible repeat (first | exact Below.refl _ _ | apply below_alloc | refine below_set ?_ ?_)); all_goals first | exact Nat.le_refl _ | exact Nat.le_succ _⟩
set_option maxHeartbeats 4000000 in
theorem times_bad2 (a b c : Int) (w : World) (k0 : 0 ≤ a ∧ a ≤ 1000000000) (k1 : 0 ≤ b ∧ b ≤ 1000000000) (k2 : ¬ (1 ≤ c ∧ c ≤ 1000000000)) : Calls Try.prog 11 #[.int .i64 a, .int .i64 b, .int .i64 c] w fun e w' => e = .returned (.tuple #[.int .i64 0, .int .i64 1]) ∧ Below w.heap.size w w' := by
  have h0 := fun W => need_ok a 0 1000000000 W k0
  have h1 := fun W => need_ok b 0 1000000000 W k1
  have h2 := fun W => need_bad c 1 1000000000 W k2
  clear k0 k1 k2
  go_enter_defers Try.func11, Try.ntmps11
  go_wp2_with (first | (go_at_call 21; (with_reducible refine (h0 _).mono ?_); rintro e w1 ⟨rfl, rfl⟩) | (go_at_call 21; (with_reducible refine (h1 _).mono ?_); rintro e w1 ⟨rfl, rfl⟩) | (go_at_call 21; (with_reducible refine (h2 _).mono ?_); rintro e w1 ⟨rfl, rfl⟩))
  refine leaves_cons (f := 20) (args := #[.pointer (some ⟨w.heap.size, 0, none⟩), .pointer (some ⟨w.heap.size + 1, 0, none⟩)]) (by simp) (by simp [go_sem]) ?_
  refine (leave_errno ⟨w.heap.size, 0, none⟩ ⟨w.heap.size + 1, 0, none⟩ 0 0 1 _ (by simp [go_sem]) (by simp [go_sem]) (by simp [go_sem]) (by simp [go_sem]) (by simp)).mono ?_
  rintro e u' w'' ⟨rfl, hs, rfl⟩
  show Leaves _ _ _ _ _ (settle u') _
  rw [hs]
  exact ⟨.tuple #[.int .i64 0, .int .i64 1], by simp [results, Try.results11, go_sem], rfl, by (with_reducible repeat (first | exact Below.refl _ _ | apply below_alloc | refine below_set ?_ ?_)); all_goals first | exact Nat.le_refl _ | exact Nat.le_succ _⟩
set_option maxHeartbeats 4000000 in
theorem times_over (a b c : Int) (w : World) (k0 : 0 ≤ a ∧ a ≤ 1000000000) (k1 : 0 ≤ b ∧ b ≤ 1000000000) (k2 : 1 ≤ c ∧ c ≤ 1000000000) (km : ¬ (0 ≤ (2 * (a * b) + c) / (2 * c) ∧ (2 * (a * b) + c) / (2 * c) ≤ 1000000000)) : Calls Try.prog 11 #[.int .i64 a, .int .i64 b, .int .i64 c] w fun e w' => e = .returned (.tuple #[.int .i64 0, .int .i64 3]) ∧ Below w.heap.size w w' := by
  have h0 := fun W => need_ok a 0 1000000000 W k0
  have h1 := fun W => need_ok b 0 1000000000 W k1
  have h2 := fun W => need_ok c 1 1000000000 W k2
  have q0 : 0 ≤ a * b := Int.mul_nonneg k0.1 k1.1
  have q1 : a * b ≤ 1000000000 * 1000000000 := Int.mul_le_mul k0.2 k1.2 k1.1 (by decide)
  have e1 : wrap64 (a * b) = a * b := by unfold wrap64; omega
  have hh := fun W => half_calls (a * b) c W (by omega) ⟨q0, by omega⟩ k2
  clear q0 q1
  have hm := fun W => amount_bad ((2 * (a * b) + c) / (2 * c)) W km
  clear km
  go_enter_defers Try.func11, Try.ntmps11
  go_wp2_with (first | (go_at_call 21; (with_reducible refine (h0 _).mono ?_); rintro e w1 ⟨rfl, rfl⟩) | (go_at_call 21; (with_reducible refine (h1 _).mono ?_); rintro e w1 ⟨rfl, rfl⟩) | (go_at_call 21; (with_reducible refine (h2 _).mono ?_); rintro e w1 ⟨rfl, rfl⟩) | (go_at_call 23; (with_reducible refine (hh _).mono ?_); rintro e w1 ⟨rfl, rfl⟩) | (go_at_call 22; (with_reducible refine (hm _).mono ?_); rintro e w1 ⟨rfl, rfl⟩))
  refine leaves_cons (f := 20) (args := #[.pointer (some ⟨w.heap.size, 0, none⟩), .pointer (some ⟨w.heap.size + 1, 0, none⟩)]) (by simp) (by simp [go_sem]) ?_
  refine (leave_errno ⟨w.heap.size, 0, none⟩ ⟨w.heap.size + 1, 0, none⟩ 0 0 3 _ (by simp [go_sem]) (by simp [go_sem]) (by simp [go_sem]) (by simp [go_sem]) (by simp)).mono ?_
  rintro e u' w'' ⟨rfl, hs, rfl⟩
  show Leaves _ _ _ _ _ (settle u') _
  rw [hs]
  exact ⟨.tuple #[.int .i64 0, .int .i64 3], by simp [results, Try.results11, go_sem], rfl, by (with_reducible repeat (first | exact Below.refl _ _ | apply below_alloc | refine below_set ?_ ?_)); all_goals first | exact Nat.le_refl _ | exact Nat.le_succ _⟩
set_option maxHeartbeats 4000000 in
theorem times_fine (a b c : Int) (w : World) (k0 : 0 ≤ a ∧ a ≤ 1000000000) (k1 : 0 ≤ b ∧ b ≤ 1000000000) (k2 : 1 ≤ c ∧ c ≤ 1000000000) (km : 0 ≤ (2 * (a * b) + c) / (2 * c) ∧ (2 * (a * b) + c) / (2 * c) ≤ 1000000000) : Calls Try.prog 11 #[.int .i64 a, .int .i64 b, .int .i64 c] w fun e w' => e = .returned (.tuple #[.int .i64 ((2 * (a * b) + c) / (2 * c)), .int .i64 0]) ∧ Below w.heap.size w w' := by
  have h0 := fun W => need_ok a 0 1000000000 W k0
  have h1 := fun W => need_ok b 0 1000000000 W k1
  have h2 := fun W => need_ok c 1 1000000000 W k2
  have q0 : 0 ≤ a * b := Int.mul_nonneg k0.1 k1.1
  have q1 : a * b ≤ 1000000000 * 1000000000 := Int.mul_le_mul k0.2 k1.2 k1.1 (by decide)
  have e1 : wrap64 (a * b) = a * b := by unfold wrap64; omega
  have hh := fun W => half_calls (a * b) c W (by omega) ⟨q0, by omega⟩ k2
  clear q0 q1
  have hm := fun W => amount_ok ((2 * (a * b) + c) / (2 * c)) W km
  clear km
  go_enter_defers Try.func11, Try.ntmps11
  go_wp2_with (first | (go_at_call 21; (with_reducible refine (h0 _).mono ?_); rintro e w1 ⟨rfl, rfl⟩) | (go_at_call 21; (with_reducible refine (h1 _).mono ?_); rintro e w1 ⟨rfl, rfl⟩) | (go_at_call 21; (with_reducible refine (h2 _).mono ?_); rintro e w1 ⟨rfl, rfl⟩) | (go_at_call 23; (with_reducible refine (hh _).mono ?_); rintro e w1 ⟨rfl, rfl⟩) | (go_at_call 22; (with_reducible refine (hm _).mono ?_); rintro e w1 ⟨rfl, rfl⟩))
  refine leaves_cons (f := 20) (args := #[.pointer (some ⟨w.heap.size, 0, none⟩), .pointer (some ⟨w.heap.size + 1, 0, none⟩)]) (by simp) (by simp [go_sem]) ?_
  refine (leave_idle ⟨w.heap.size, 0, none⟩ ⟨w.heap.size + 1, 0, none⟩ _).mono ?_
  rintro e u' w'' ⟨rfl, rfl, rfl⟩
  exact ⟨.tuple #[.int .i64 ((2 * (a * b) + c) / (2 * c)), .int .i64 0], by simp [results, Try.results11, go_sem], rfl, by (with_reducible repeat (first | exact Below.refl _ _ | apply below_alloc | refine below_set ?_ ?_)); all_goals first | exact Nat.le_refl _ | exact Nat.le_succ _⟩
set_option maxHeartbeats 4000000 in
theorem tax_bad0 (a b : Int) (w : World)  (k0 : ¬ (0 ≤ a ∧ a ≤ 1000000000)) : Calls Try.prog 15 #[.int .i64 a, .int .i64 b] w fun e w' => e = .returned (.tuple #[.int .i64 0, .int .i64 1]) ∧ Below w.heap.size w w' := by
  have h0 := fun W => need_bad a 0 1000000000 W k0
  clear k0
  go_enter_defers Try.func15, Try.ntmps15
  go_wp2_with (first | (go_at_call 21; (with_reducible refine (h0 _).mono ?_); rintro e w1 ⟨rfl, rfl⟩))
  refine leaves_cons (f := 20) (args := #[.pointer (some ⟨w.heap.size, 0, none⟩), .pointer (some ⟨w.heap.size + 1, 0, none⟩)]) (by simp) (by simp [go_sem]) ?_
  refine (leave_errno ⟨w.heap.size, 0, none⟩ ⟨w.heap.size + 1, 0, none⟩ 0 0 1 _ (by simp [go_sem]) (by simp [go_sem]) (by simp [go_sem]) (by simp [go_sem]) (by simp)).mono ?_
  rintro e u' w'' ⟨rfl, hs, rfl⟩
  show Leaves _ _ _ _ _ (settle u') _
  rw [hs]
  exact ⟨.tuple #[.int .i64 0, .int .i64 1], by simp [results, Try.results15, go_sem], rfl, by (with_reducible repeat (first | exact Below.refl _ _ | apply below_alloc | refine below_set ?_ ?_)); all_goals first | exact Nat.le_refl _ | exact Nat.le_succ _⟩
set_option maxHeartbeats 4000000 in
theorem tax_bad1 (a b : Int) (w : World) (k0 : 0 ≤ a ∧ a ≤ 1000000000) (k1 : ¬ (0 ≤ b ∧ b ≤ 100000)) : Calls Try.prog 15 #[.int .i64 a, .int .i64 b] w fun e w' => e = .returned (.tuple #[.int .i64 0, .int .i64 1]) ∧ Below w.heap.size w w' := by
  have h0 := fun W => need_ok a 0 1000000000 W k0
  have h1 := fun W => need_bad b 0 100000 W k1
  clear k0 k1
  go_enter_defers Try.func15, Try.ntmps15
  go_wp2_with (first | (go_at_call 21; (with_reducible refine (h0 _).mono ?_); rintro e w1 ⟨rfl, rfl⟩) | (go_at_call 21; (with_reducible refine (h1 _).mono ?_); rintro e w1 ⟨rfl, rfl⟩))
  refine leaves_cons (f := 20) (args := #[.pointer (some ⟨w.heap.size, 0, none⟩), .pointer (some ⟨w.heap.size + 1, 0, none⟩)]) (by simp) (by simp [go_sem]) ?_
  refine (leave_errno ⟨w.heap.size, 0, none⟩ ⟨w.heap.size + 1, 0, none⟩ 0 0 1 _ (by simp [go_sem]) (by simp [go_sem]) (by simp [go_sem]) (by simp [go_sem]) (by simp)).mono ?_
  rintro e u' w'' ⟨rfl, hs, rfl⟩
  show Leaves _ _ _ _ _ (settle u') _
  rw [hs]
  exact ⟨.tuple #[.int .i64 0, .int .i64 1], by simp [results, Try.results15, go_sem], rfl, by (with_reducible repeat (first | exact Below.refl _ _ | apply below_alloc | refine below_set ?_ ?_)); all_goals first | exact Nat.le_refl _ | exact Nat.le_succ _⟩
set_option maxHeartbeats 4000000 in
theorem tax_over (a b : Int) (w : World) (k0 : 0 ≤ a ∧ a ≤ 1000000000) (k1 : 0 ≤ b ∧ b ≤ 100000) (km : ¬ (0 ≤ (2 * (a * b) + 10000) / 20000 ∧ (2 * (a * b) + 10000) / 20000 ≤ 1000000000)) : Calls Try.prog 15 #[.int .i64 a, .int .i64 b] w fun e w' => e = .returned (.tuple #[.int .i64 0, .int .i64 3]) ∧ Below w.heap.size w w' := by
  have h0 := fun W => need_ok a 0 1000000000 W k0
  have h1 := fun W => need_ok b 0 100000 W k1
  have q0 : 0 ≤ a * b := Int.mul_nonneg k0.1 k1.1
  have q1 : a * b ≤ 1000000000 * 100000 := Int.mul_le_mul k0.2 k1.2 k1.1 (by decide)
  have e1 : wrap64 (a * b) = a * b := by unfold wrap64; omega
  have hh : ∀ W, Calls Try.prog 23 #[.int .i64 (a * b), .int .i64 10000] W fun e w' => e = .returned (.int .i64 ((2 * (a * b) + 10000) / 20000)) ∧ w' = W := fun W => half_calls (a * b) 10000 W (by omega) ⟨q0, by omega⟩ (by omega)
  clear q0 q1
  have hm := fun W => amount_bad ((2 * (a * b) + 10000) / 20000) W km
  clear km
  go_enter_defers Try.func15, Try.ntmps15
  go_wp2_with (first | (go_at_call 21; (with_reducible refine (h0 _).mono ?_); rintro e w1 ⟨rfl, rfl⟩) | (go_at_call 21; (with_reducible refine (h1 _).mono ?_); rintro e w1 ⟨rfl, rfl⟩) | (go_at_call 23; (with_reducible refine (hh _).mono ?_); rintro e w1 ⟨rfl, rfl⟩) | (go_at_call 22; (with_reducible refine (hm _).mono ?_); rintro e w1 ⟨rfl, rfl⟩))
  refine leaves_cons (f := 20) (args := #[.pointer (some ⟨w.heap.size, 0, none⟩), .pointer (some ⟨w.heap.size + 1, 0, none⟩)]) (by simp) (by simp [go_sem]) ?_
  refine (leave_errno ⟨w.heap.size, 0, none⟩ ⟨w.heap.size + 1, 0, none⟩ 0 0 3 _ (by simp [go_sem]) (by simp [go_sem]) (by simp [go_sem]) (by simp [go_sem]) (by simp)).mono ?_
  rintro e u' w'' ⟨rfl, hs, rfl⟩
  show Leaves _ _ _ _ _ (settle u') _
  rw [hs]
  exact ⟨.tuple #[.int .i64 0, .int .i64 3], by simp [results, Try.results15, go_sem], rfl, by (with_reducible repeat (first | exact Below.refl _ _ | apply below_alloc | refine below_set ?_ ?_)); all_goals first | exact Nat.le_refl _ | exact Nat.le_succ _⟩
set_option maxHeartbeats 4000000 in
theorem tax_fine (a b : Int) (w : World) (k0 : 0 ≤ a ∧ a ≤ 1000000000) (k1 : 0 ≤ b ∧ b ≤ 100000) (km : 0 ≤ (2 * (a * b) + 10000) / 20000 ∧ (2 * (a * b) + 10000) / 20000 ≤ 1000000000) : Calls Try.prog 15 #[.int .i64 a, .int .i64 b] w fun e w' => e = .returned (.tuple #[.int .i64 ((2 * (a * b) + 10000) / 20000), .int .i64 0]) ∧ Below w.heap.size w w' := by
  have h0 := fun W => need_ok a 0 1000000000 W k0
  have h1 := fun W => need_ok b 0 100000 W k1
  have q0 : 0 ≤ a * b := Int.mul_nonneg k0.1 k1.1
  have q1 : a * b ≤ 1000000000 * 100000 := Int.mul_le_mul k0.2 k1.2 k1.1 (by decide)
  have e1 : wrap64 (a * b) = a * b := by unfold wrap64; omega
  have hh : ∀ W, Calls Try.prog 23 #[.int .i64 (a * b), .int .i64 10000] W fun e w' => e = .returned (.int .i64 ((2 * (a * b) + 10000) / 20000)) ∧ w' = W := fun W => half_calls (a * b) 10000 W (by omega) ⟨q0, by omega⟩ (by omega)
  clear q0 q1
  have hm := fun W => amount_ok ((2 * (a * b) + 10000) / 20000) W km
  clear km
  go_enter_defers Try.func15, Try.ntmps15
  go_wp2_with (first | (go_at_call 21; (with_reducible refine (h0 _).mono ?_); rintro e w1 ⟨rfl, rfl⟩) | (go_at_call 21; (with_reducible refine (h1 _).mono ?_); rintro e w1 ⟨rfl, rfl⟩) | (go_at_call 23; (with_reducible refine (hh _).mono ?_); rintro e w1 ⟨rfl, rfl⟩) | (go_at_call 22; (with_reducible refine (hm _).mono ?_); rintro e w1 ⟨rfl, rfl⟩))
  refine leaves_cons (f := 20) (args := #[.pointer (some ⟨w.heap.size, 0, none⟩), .pointer (some ⟨w.heap.size + 1, 0, none⟩)]) (by simp) (by simp [go_sem]) ?_
  refine (leave_idle ⟨w.heap.size, 0, none⟩ ⟨w.heap.size + 1, 0, none⟩ _).mono ?_
  rintro e u' w'' ⟨rfl, rfl, rfl⟩
  exact ⟨.tuple #[.int .i64 ((2 * (a * b) + 10000) / 20000), .int .i64 0], by simp [results, Try.results15, go_sem], rfl, by (with_reducible repeat (first | exact Below.refl _ _ | apply below_alloc | refine below_set ?_ ?_)); all_goals first | exact Nat.le_refl _ | exact Nat.le_succ _⟩
set_option maxHeartbeats 4000000 in
theorem started_bad0 (a b c : Int) (w : World)  (k0 : ¬ (0 ≤ a ∧ a ≤ 1000000000)) : Calls Try.prog 13 #[.int .i64 a, .int .i64 b, .int .i64 c] w fun e w' => e = .returned (.tuple #[.int .i64 0, .int .i64 1]) ∧ Below w.heap.size w w' := by
  have h0 := fun W => need_bad a 0 1000000000 W k0
  clear k0
  go_enter_defers Try.func13, Try.ntmps13
  go_wp2_with (first | (go_at_call 21; (with_reducible refine (h0 _).mono ?_); rintro e w1 ⟨rfl, rfl⟩))
  refine leaves_cons (f := 20) (args := #[.pointer (some ⟨w.heap.size, 0, none⟩), .pointer (some ⟨w.heap.size + 1, 0, none⟩)]) (by simp) (by simp [go_sem]) ?_
  refine (leave_errno ⟨w.heap.size, 0, none⟩ ⟨w.heap.size + 1, 0, none⟩ 0 0 1 _ (by simp [go_sem]) (by simp [go_sem]) (by simp [go_sem]) (by simp [go_sem]) (by simp)).mono ?_
  rintro e u' w'' ⟨rfl, hs, rfl⟩
  show Leaves _ _ _ _ _ (settle u') _
  rw [hs]
  exact ⟨.tuple #[.int .i64 0, .int .i64 1], by simp [results, Try.results13, go_sem], rfl, by (with_reducible repeat (first | exact Below.refl _ _ | apply below_alloc | refine below_set ?_ ?_)); all_goals first | exact Nat.le_refl _ | exact Nat.le_succ _⟩
set_option maxHeartbeats 4000000 in
theorem started_bad1 (a b c : Int) (w : World) (k0 : 0 ≤ a ∧ a ≤ 1000000000) (k1 : ¬ (0 ≤ b ∧ b ≤ 1000000000)) : Calls Try.prog 13 #[.int .i64 a, .int .i64 b, .int .i64 c] w fun e w' => e = .returned (.tuple #[.int .i64 0, .int .i64 1]) ∧ Below w.heap.size w w' := by
  have h0 := fun W => need_ok a 0 1000000000 W k0
  have h1 := fun W => need_bad b 0 1000000000 W k1
  clear k0 k1
  go_enter_defers Try.func13, Try.ntmps13
  go_wp2_with (first | (go_at_call 21; (with_reducible refine (h0 _).mono ?_); rintro e w1 ⟨rfl, rfl⟩) | (go_at_call 21; (with_reducible refine (h1 _).mono ?_); rintro e w1 ⟨rfl, rfl⟩))
  refine leaves_cons (f := 20) (args := #[.pointer (some ⟨w.heap.size, 0, none⟩), .pointer (some ⟨w.heap.size + 1, 0, none⟩)]) (by simp) (by simp [go_sem]) ?_
  refine (leave_errno ⟨w.heap.size, 0, none⟩ ⟨w.heap.size + 1, 0, none⟩ 0 0 1 _ (by simp [go_sem]) (by simp [go_sem]) (by simp [go_sem]) (by simp [go_sem]) (by simp)).mono ?_
  rintro e u' w'' ⟨rfl, hs, rfl⟩
  show Leaves _ _ _ _ _ (settle u') _
  rw [hs]
  exact ⟨.tuple #[.int .i64 0, .int .i64 1], by simp [results, Try.results13, go_sem], rfl, by (with_reducible repeat (first | exact Below.refl _ _ | apply below_alloc | refine below_set ?_ ?_)); all_goals first | exact Nat.le_refl _ | exact Nat.le_succ _⟩
set_option maxHeartbeats 4000000 in
theorem started_bad2 (a b c : Int) (w : World) (k0 : 0 ≤ a ∧ a ≤ 1000000000) (k1 : 0 ≤ b ∧ b ≤ 1000000000) (k2 : ¬ (1 ≤ c ∧ c ≤ 1000000000)) : Calls Try.prog 13 #[.int .i64 a, .int .i64 b, .int .i64 c] w fun e w' => e = .returned (.tuple #[.int .i64 0, .int .i64 1]) ∧ Below w.heap.size w w' := by
  have h0 := fun W => need_ok a 0 1000000000 W k0
  have h1 := fun W => need_ok b 0 1000000000 W k1
  have h2 := fun W => need_bad c 1 1000000000 W k2
  clear k0 k1 k2
  go_enter_defers Try.func13, Try.ntmps13
  go_wp2_with (first | (go_at_call 21; (with_reducible refine (h0 _).mono ?_); rintro e w1 ⟨rfl, rfl⟩) | (go_at_call 21; (with_reducible refine (h1 _).mono ?_); rintro e w1 ⟨rfl, rfl⟩) | (go_at_call 21; (with_reducible refine (h2 _).mono ?_); rintro e w1 ⟨rfl, rfl⟩))
  refine leaves_cons (f := 20) (args := #[.pointer (some ⟨w.heap.size, 0, none⟩), .pointer (some ⟨w.heap.size + 1, 0, none⟩)]) (by simp) (by simp [go_sem]) ?_
  refine (leave_errno ⟨w.heap.size, 0, none⟩ ⟨w.heap.size + 1, 0, none⟩ 0 0 1 _ (by simp [go_sem]) (by simp [go_sem]) (by simp [go_sem]) (by simp [go_sem]) (by simp)).mono ?_
  rintro e u' w'' ⟨rfl, hs, rfl⟩
  show Leaves _ _ _ _ _ (settle u') _
  rw [hs]
  exact ⟨.tuple #[.int .i64 0, .int .i64 1], by simp [results, Try.results13, go_sem], rfl, by (with_reducible repeat (first | exact Below.refl _ _ | apply below_alloc | refine below_set ?_ ?_)); all_goals first | exact Nat.le_refl _ | exact Nat.le_succ _⟩
set_option maxHeartbeats 4000000 in
theorem started_over (a b c : Int) (w : World) (k0 : 0 ≤ a ∧ a ≤ 1000000000) (k1 : 0 ≤ b ∧ b ≤ 1000000000) (k2 : 1 ≤ c ∧ c ≤ 1000000000) (km : ¬ (0 ≤ a * ((b + c - 1) / c) ∧ a * ((b + c - 1) / c) ≤ 1000000000)) : Calls Try.prog 13 #[.int .i64 a, .int .i64 b, .int .i64 c] w fun e w' => e = .returned (.tuple #[.int .i64 0, .int .i64 3]) ∧ Below w.heap.size w w' := by
  have h0 := fun W => need_ok a 0 1000000000 W k0
  have h1 := fun W => need_ok b 0 1000000000 W k1
  have h2 := fun W => need_ok c 1 1000000000 W k2
  have q0 : 0 ≤ (b + c - 1) / c := Int.ediv_nonneg (by omega) (by omega)
  have q1 : (b + c - 1) / c ≤ b + c - 1 := Int.ediv_le_self _ (by omega)
  have q2 : 0 ≤ a * ((b + c - 1) / c) := Int.mul_nonneg k0.1 q0
  have q3 : a * ((b + c - 1) / c) ≤ 1000000000 * 2000000000 := Int.mul_le_mul k0.2 (by omega) q0 (by decide)
  have e0 : wrap64 (b + c) = b + c := by unfold wrap64; omega
  have e1 : wrap64 (b + c - 1) = b + c - 1 := by unfold wrap64; omega
  have e2 : (b + c - 1).tdiv c = (b + c - 1) / c := Int.tdiv_eq_ediv_of_nonneg (by omega)
  have e3 : wrap64 ((b + c - 1) / c) = (b + c - 1) / c := by unfold wrap64; omega
  have e4 : wrap64 (a * ((b + c - 1) / c)) = a * ((b + c - 1) / c) := by unfold wrap64; omega
  have h5 : (c == 0) = false := by simp; omega
  have h6 : c ≠ 0 := by omega
  clear q0 q1 q2 q3
  have hm := fun W => amount_bad (a * ((b + c - 1) / c)) W km
  clear km
  go_enter_defers Try.func13, Try.ntmps13
  go_wp2_with (first | (go_at_call 21; (with_reducible refine (h0 _).mono ?_); rintro e w1 ⟨rfl, rfl⟩) | (go_at_call 21; (with_reducible refine (h1 _).mono ?_); rintro e w1 ⟨rfl, rfl⟩) | (go_at_call 21; (with_reducible refine (h2 _).mono ?_); rintro e w1 ⟨rfl, rfl⟩) | (go_at_call 22; (with_reducible refine (hm _).mono ?_); rintro e w1 ⟨rfl, rfl⟩))
  refine leaves_cons (f := 20) (args := #[.pointer (some ⟨w.heap.size, 0, none⟩), .pointer (some ⟨w.heap.size + 1, 0, none⟩)]) (by simp) (by simp [go_sem]) ?_
  refine (leave_errno ⟨w.heap.size, 0, none⟩ ⟨w.heap.size + 1, 0, none⟩ 0 0 3 _ (by simp [go_sem]) (by simp [go_sem]) (by simp [go_sem]) (by simp [go_sem]) (by simp)).mono ?_
  rintro e u' w'' ⟨rfl, hs, rfl⟩
  show Leaves _ _ _ _ _ (settle u') _
  rw [hs]
  exact ⟨.tuple #[.int .i64 0, .int .i64 3], by simp [results, Try.results13, go_sem], rfl, by (with_reducible repeat (first | exact Below.refl _ _ | apply below_alloc | refine below_set ?_ ?_)); all_goals first | exact Nat.le_refl _ | exact Nat.le_succ _⟩
set_option maxHeartbeats 4000000 in
theorem started_fine (a b c : Int) (w : World) (k0 : 0 ≤ a ∧ a ≤ 1000000000) (k1 : 0 ≤ b ∧ b ≤ 1000000000) (k2 : 1 ≤ c ∧ c ≤ 1000000000) (km : 0 ≤ a * ((b + c - 1) / c) ∧ a * ((b + c - 1) / c) ≤ 1000000000) : Calls Try.prog 13 #[.int .i64 a, .int .i64 b, .int .i64 c] w fun e w' => e = .returned (.tuple #[.int .i64 (a * ((b + c - 1) / c)), .int .i64 0]) ∧ Below w.heap.size w w' := by
  have h0 := fun W => need_ok a 0 1000000000 W k0
  have h1 := fun W => need_ok b 0 1000000000 W k1
  have h2 := fun W => need_ok c 1 1000000000 W k2
  have q0 : 0 ≤ (b + c - 1) / c := Int.ediv_nonneg (by omega) (by omega)
  have q1 : (b + c - 1) / c ≤ b + c - 1 := Int.ediv_le_self _ (by omega)
  have q2 : 0 ≤ a * ((b + c - 1) / c) := Int.mul_nonneg k0.1 q0
  have q3 : a * ((b + c - 1) / c) ≤ 1000000000 * 2000000000 := Int.mul_le_mul k0.2 (by omega) q0 (by decide)
  have e0 : wrap64 (b + c) = b + c := by unfold wrap64; omega
  have e1 : wrap64 (b + c - 1) = b + c - 1 := by unfold wrap64; omega
  have e2 : (b + c - 1).tdiv c = (b + c - 1) / c := Int.tdiv_eq_ediv_of_nonneg (by omega)
  have e3 : wrap64 ((b + c - 1) / c) = (b + c - 1) / c := by unfold wrap64; omega
  have e4 : wrap64 (a * ((b + c - 1) / c)) = a * ((b + c - 1) / c) := by unfold wrap64; omega
  have h5 : (c == 0) = false := by simp; omega
  have h6 : c ≠ 0 := by omega
  clear q0 q1 q2 q3
  have hm := fun W => amount_ok (a * ((b + c - 1) / c)) W km
  clear km
  go_enter_defers Try.func13, Try.ntmps13
  go_wp2_with (first | (go_at_call 21; (with_reducible refine (h0 _).mono ?_); rintro e w1 ⟨rfl, rfl⟩) | (go_at_call 21; (with_reducible refine (h1 _).mono ?_); rintro e w1 ⟨rfl, rfl⟩) | (go_at_call 21; (with_reducible refine (h2 _).mono ?_); rintro e w1 ⟨rfl, rfl⟩) | (go_at_call 22; (with_reducible refine (hm _).mono ?_); rintro e w1 ⟨rfl, rfl⟩))
  refine leaves_cons (f := 20) (args := #[.pointer (some ⟨w.heap.size, 0, none⟩), .pointer (some ⟨w.heap.size + 1, 0, none⟩)]) (by simp) (by simp [go_sem]) ?_
  refine (leave_idle ⟨w.heap.size, 0, none⟩ ⟨w.heap.size + 1, 0, none⟩ _).mono ?_
  rintro e u' w'' ⟨rfl, rfl, rfl⟩
  exact ⟨.tuple #[.int .i64 (a * ((b + c - 1) / c)), .int .i64 0], by simp [results, Try.results13, go_sem], rfl, by (with_reducible repeat (first | exact Below.refl _ _ | apply below_alloc | refine below_set ?_ ?_)); all_goals first | exact Nat.le_refl _ | exact Nat.le_succ _⟩
end Go.Proofs.Ytilmdlaacpefiaa.Q
namespace Go.Proofs.Ytilmdlaacpefiaa.Q
open Go.RowKit Go.Proofs.YtilmdlaacpefiaaW.PrintWords Go.Proofs.YtilmdlaacpefiaaW.PrintLast Go.Proofs.YtilmdlaacpefiaaW.PrintMore
attribute [local go_sem] max2_int min2_int max_two min_two max_three min_three max_four min_four
section
open Go.Sort
section
variable {α : Type} [Inhabited α]
def ltK (key : α → Int) (x y : α) : Bool := decide (key y - key x < 0)
def lt2 (key idx : α → Int) (x y : α) : Bool := decide (key y < key x) || (decide (key x = key y) && decide (idx x < idx y))
theorem swo_lt2 (key idx : α → Int) : SWO (lt2 key idx) where
  irrefl x := by simp [lt2]
  trans x y z h1 h2 := by simp only [lt2, Bool.or_eq_true, Bool.and_eq_true, decide_eq_true_eq] at *; omega
  ntrans x y z h1 h2 := by simp only [lt2, Bool.or_eq_false_iff, Bool.and_eq_false_iff, decide_eq_false_iff_not] at *; omega
theorem lt2_anti (key idx : α → Int) (hinj : ∀ x y, idx x = idx y → x = y) (x y : α) (h1 : lt2 key idx x y = false) (h2 : lt2 key idx y x = false) : x = y := by
  refine hinj x y ?_
  simp only [lt2, Bool.or_eq_false_iff, Bool.and_eq_false_iff, decide_eq_false_iff_not] at *; omega
theorem lt2_of_later (key idx : α → Int) {x y : α} (h : idx y < idx x) : ltK key x y = lt2 key idx x y := by
  unfold ltK lt2
  have h1 : decide (idx x < idx y) = false := decide_eq_false (by omega)
  rw [h1, Bool.and_false, Bool.or_false]
  congr 1
  apply propext
  omega
theorem insInner_lt2 (key idx : α → Int) (a : Nat) : ∀ (i : Nat) (d : Array α), i < d.size → (∀ j, a ≤ j → j < i → idx d[j]! < idx d[i]!) → insInner (ltK key) a i d = insInner (lt2 key idx) a i d
  | 0, d, _, _ => rfl
  | i + 1, d, hi, h => by
    unfold insInner
    by_cases ha : i + 1 > a
    · rw [lt2_of_later key idx (h i (by omega) (by omega))]
      split
      · refine insInner_lt2 key idx a i _ (by rw [swp_size]; omega) (fun j h1 h2 => ?_)
        rw [swp_get d hi (by omega), swp_get d hi (by omega)]
        simp only [show ¬ j = i + 1 by omega, show ¬ j = i by omega, show ¬ i = i + 1 by omega, if_false, if_true]
        exact h j h1 (by omega)
      · rfl
    · simp [ha]
theorem iO_go (lt : α → α → Bool) (a b i : Nat) (d : Array α) (h : i < b) : insOuter lt a b i d = insOuter lt a b (i + 1) (insInner lt a i d) := by rw [insOuter, if_pos h]
theorem iO_stop (lt : α → α → Bool) (a b i : Nat) (d : Array α) (h : ¬ i < b) : insOuter lt a b i d = d := by rw [insOuter, if_neg h]
theorem insOuter_lt2 (key idx : α → Int) (a b : Nat) : ∀ (n i : Nat) (d : Array α), b - i = n → a < i → b ≤ d.size → SortedIn (lt2 key idx) a i d → (∀ k, i ≤ k → k < b → ∀ j, a ≤ j → j < k → idx d[j]! < idx d[k]!) → insOuter (ltK key) a b i d = insOuter (lt2 key idx) a b i d
  | 0, i, d, hn, _, _, _, _ => by rw [iO_stop _ _ _ _ _ (by omega), iO_stop _ _ _ _ _ (by omega)]
  | n + 1, i, d, hn, hai, hb, hs, h => by
    have hlt : i < b := by omega
    rw [iO_go _ _ _ _ _ hlt, iO_go _ _ _ _ _ hlt, insInner_lt2 key idx a i d (by omega) (h i (Nat.le_refl _) hlt)]
    have h1 := insInner_spec (swo_lt2 key idx) swp_permIn permIn_refl permIn_trans a (i + 1) i (by omega) i d (by omega) (Nat.le_refl _) (by omega) ⟨fun p q hap hpq hqi _ hq => hs p q hap hpq (by omega), fun q h1 h2 => by omega⟩
    refine insOuter_lt2 key idx a b n (i + 1) _ (by omega) (by omega) (by rw [h1.1.1]; exact hb) h1.2 (fun k hk hkb j haj hjk => ?_)
    rw [h1.1.2.1 k (Or.inr hk)]
    by_cases hji : j < i + 1
    · exact permIn_all d _ a (i + 1) (fun x => idx x < idx d[k]!) (by omega) h1.1 (fun q h2 h3 => h k (by omega) hkb q h2 (by omega)) j haj hji
    · rw [h1.1.2.1 j (Or.inr (by omega))]
      exact h k (by omega) hkb j haj hjk
theorem insertionSort_lt2 (key idx : α → Int) (d : Array α) (a b : Nat) (hab : a ≤ b) (hb : b ≤ d.size) (h : ∀ j k, a ≤ j → j < k → k < b → idx d[j]! < idx d[k]!) :
    PermIn a b d (insertionSort (ltK key) d a b) ∧ SortedIn (lt2 key idx) a b (insertionSort (ltK key) d a b) := by
  have e : insertionSort (ltK key) d a b = insertionSort (lt2 key idx) d a b := insOuter_lt2 key idx a b _ (a + 1) d rfl (by omega) hb (fun i j h1 h2 h3 => by omega) (fun k hk hkb j h1 h2 => h j k h1 h2 hkb)
  rw [e]
  exact insertionSort_holds (swo_lt2 key idx) d a b hab hb
def insK (key idx : α → Int) (x : α) : List α → List α
  | [] => [x]
  | y :: r => if lt2 key idx y x then y :: insK key idx x r else x :: y :: r
def srtK (key idx : α → Int) : List α → List α
  | [] => []
  | x :: r => insK key idx x (srtK key idx r)
theorem insK_perm (key idx : α → Int) (x : α) : ∀ r : List α, (insK key idx x r).Perm (x :: r)
  | [] => List.Perm.refl _
  | y :: r => by
    unfold insK
    split
    · exact ((insK_perm key idx x r).cons y).trans (List.Perm.swap _ _ _)
    · exact List.Perm.refl _
theorem srtK_perm (key idx : α → Int) : ∀ l : List α, (srtK key idx l).Perm l
  | [] => List.Perm.refl _
  | x :: r => (insK_perm key idx x _).trans ((srtK_perm key idx r).cons x)
theorem insK_sorted (key idx : α → Int) (x : α) : ∀ r : List α, r.Pairwise (fun a b => lt2 key idx b a = false) → (insK key idx x r).Pairwise (fun a b => lt2 key idx b a = false)
  | [], _ => by simp [insK]
  | y :: r, h => by
    have hS := swo_lt2 key idx
    obtain ⟨h1, h2⟩ := List.pairwise_cons.1 h
    unfold insK
    split
    · rename_i c
      refine List.pairwise_cons.2 ⟨fun z hz => ?_, insK_sorted key idx x r h2⟩
      rcases List.mem_cons.1 ((insK_perm key idx x r).mem_iff.1 hz) with rfl | hz
      · exact hS.asymmA c
      · exact h1 z hz
    · rename_i c
      have c' : lt2 key idx y x = false := by simpa using c
      refine List.pairwise_cons.2 ⟨fun z hz => ?_, h⟩
      rcases List.mem_cons.1 hz with rfl | hz
      · exact c'
      · exact hS.ntrans z y x (h1 z hz) c'
theorem srtK_sorted (key idx : α → Int) : ∀ l : List α, (srtK key idx l).Pairwise (fun a b => lt2 key idx b a = false)
  | [] => List.Pairwise.nil
  | x :: r => insK_sorted key idx x _ (srtK_sorted key idx r)
theorem srtK_of (key idx : α → Int) (hinj : ∀ x y, idx x = idx y → x = y) (d d' : Array α) (hp : PermIn 0 d.size d d') (hs : SortedIn (lt2 key idx) 0 d.size d') : d'.toList = srtK key idx d.toList := by
  obtain ⟨hsz, _, hperm⟩ := hp
  have e1 : d'.extract 0 d.size = d' := by rw [← hsz]; exact Array.extract_size
  rw [e1, Array.extract_size] at hperm
  refine List.Perm.eq_of_pairwise (le := fun x y => lt2 key idx y x = false) (fun x y _ _ h1 h2 => lt2_anti key idx hinj x y h2 h1) ?_ (srtK_sorted key idx _) (hperm.trans (srtK_perm key idx _).symm)
  rw [List.pairwise_iff_getElem]
  intro i j hi hj hij
  have hi' : i < d'.size := by simpa using hi
  have hj' : j < d'.size := by simpa using hj
  have := hs i j (Nat.zero_le _) hij (by omega)
  rw [getElem!_pos d' j hj', getElem!_pos d' i hi'] at this
  simpa using this
theorem insK_map {β : Type} (f : α → β) (key idx : β → Int) (x : α) : ∀ r : List α, (insK (fun a => key (f a)) (fun a => idx (f a)) x r).map f = insK key idx (f x) (r.map f)
  | [] => rfl
  | y :: r => by
    have e : lt2 (fun a => key (f a)) (fun a => idx (f a)) y x = lt2 key idx (f y) (f x) := rfl
    simp only [insK, List.map_cons, e]
    split
    · rw [List.map_cons, insK_map f key idx x r]
    · rfl
theorem srtK_map {β : Type} (f : α → β) (key idx : β → Int) : ∀ l : List α, (srtK (fun a => key (f a)) (fun a => idx (f a)) l).map f = srtK key idx (l.map f)
  | [] => rfl
  | x :: r => by rw [srtK, insK_map, srtK_map f key idx r]; rfl
end
end
def renM : Go.Shelf.Ren := ⟨fun n => match n with | 20 => 33 | _ => 0, fun n => match n with | 0 => 0 | 3 => 3 | 4 => 4 | 22 => 22 | 24 => 3 | 25 => 41 | _ => 0, fun n => n⟩
theorem layM : SlLaysF.n20 Try.prog renM where
  mixed := by kernel_rfl
  f20 := ⟨"slices.insertionSortCmpFunc[int]", by kernel_rfl, by kernel_rfl⟩
  t0 := by kernel_rfl
  a0 := fun w => by kernel_rfl
  z0 := fun w => by kernel_rfl
  v0 := fun w => by kernel_rfl
  t3 := by kernel_rfl
  a3 := fun w => by kernel_rfl
  z3 := fun w => by kernel_rfl
  v3 := fun w => by kernel_rfl
  t4 := by kernel_rfl
  a4 := fun w => by kernel_rfl
  z4 := fun w => by kernel_rfl
  v4 := fun w => by kernel_rfl
  t22 := by kernel_rfl
  a22 := fun w => by kernel_rfl
  z22 := fun w => by kernel_rfl
  v22 := fun w => by kernel_rfl
  a24 := fun w => by kernel_rfl
  z24 := fun w => by kernel_rfl
  t25 := by kernel_rfl
  a25 := fun w => by kernel_rfl
  z25 := fun w => by kernel_rfl
  v25 := fun w => by kernel_rfl
def encF {n : Nat} (i : Fin n) : Value := .int .i64 (i.val : Int)
open Go.Sort in
theorem insInner_sz {α : Type} [Inhabited α] (lt : α → α → Bool) (a : Nat) : ∀ (j : Nat) (d : Array α), (insInner lt a j d).size = d.size
  | 0, d => rfl
  | j + 1, d => by
    unfold insInner
    split
    · rw [insInner_sz lt a j, swp_size]
    · rfl
open Go.Sort in
theorem insOuter_sz {α : Type} [Inhabited α] (lt : α → α → Bool) (a b : Nat) : ∀ (n i : Nat) (d : Array α), b - i = n → (insOuter lt a b i d).size = d.size
  | 0, i, d, h => by rw [insOuter, if_neg (by omega)]
  | n + 1, i, d, h => by rw [insOuter, if_pos (by omega), insOuter_sz lt a b n (i + 1) _ (by omega), insInner_sz]
open Go.Sort in
theorem insertionSort_sz {α : Type} [Inhabited α] (lt : α → α → Bool) (d : Array α) (a b : Nat) : (insertionSort lt d a b).size = d.size := insOuter_sz lt a b _ _ d rfl
open Go.Sort in
set_option maxHeartbeats 4000000 in
set_option maxRecDepth 100000 in
theorem insM (g : Nat) (cb : Array Value) (n : Nat) [hI : Inhabited (Fin n)] (cf : Fin n → Fin n → Int) (blk cap : Nat) (d : Array (Fin n)) (w : World) (hd : d.size = n) (hn : n ≤ 1000)
    (eg : ∀ args w, (callFunc g args).run Try.prog w = .ok (.enter g args) w) (hcmp : CmpReads Try.prog g cb (encF (n := n)) cf blk 0 n w) (hH : Holds (encF (n := n)) w blk 0 d) (hblk : blk < w.heap.size)
    (a b : Nat) (d1 : Array (Fin n)) (m1 : Nat) (h1 : d1.size = n) (hab : a ≤ b) (hb : b ≤ n) : Calls Try.prog 33 #[.slice (some ⟨blk, 0, none⟩) n cap, .int .i64 a, .int .i64 b, .func (.func g) #[] cb] (sortWorld (encF (n := n)) w blk 0 m1 d1 #[]) fun e w' =>
      e = .returned (.tuple #[]) ∧ ∃ m, w' = sortWorld (encF (n := n)) w blk 0 m (insertionSort (ltOf cf) d1 a b) #[] := by
  have hh : Holds (encF (n := n)) (sortWorld (encF (n := n)) w blk 0 m1 d1 #[]) blk 0 d1 := holds_sortWorld _ _ _ _ _ d d1 _ hblk hH (by omega)
  have hs : (insertionSort (ltOf cf) d1 a b).size = d1.size := insertionSort_sz _ _ _ _
  have hc : CmpReads Try.prog g cb (encF (n := n)) cf blk 0 d1.size (sortWorld (encF (n := n)) w blk 0 m1 d1 #[]) := by
    intro m os dk hk x y
    rw [sortWorld_on _ _ _ _ _ _ _ _ _ _ hblk (by omega)]
    exact hcmp _ _ dk (by omega) x y
  have h := Any.insertionSortCmpFunc_one layM (encF (n := n)) (fun _ => rfl) cf g cb blk 0 cap a b d1 _ eg hc hh hab (by omega) (by omega)
  rw [h1] at h
  refine Calls.mono h ?_
  rintro e w' ⟨rfl, m, rfl⟩
  refine ⟨rfl, m1 + m, ?_⟩
  rw [← sortWorld_none, sortWorld_on _ _ _ _ _ _ _ _ _ _ hblk hs]
  rfl
open Go.Sort in
set_option maxHeartbeats 4000000 in
set_option maxRecDepth 100000 in
theorem stableM (g : Nat) (cb : Array Value) (n : Nat) [hI : Inhabited (Fin n)] (cf : Fin n → Fin n → Int) (blk cap : Nat) (d : Array (Fin n)) (w : World) (hd : d.size = n) (h20 : n < 20)
    (eg : ∀ args w, (callFunc g args).run Try.prog w = .ok (.enter g args) w) (hcmp : CmpReads Try.prog g cb (encF (n := n)) cf blk 0 n w) (hH : Holds (encF (n := n)) w blk 0 d) (hblk : blk < w.heap.size) :
    Calls Try.prog 32 #[.slice (some ⟨blk, 0, none⟩) n cap, .int .i64 n, .func (.func g) #[] cb] w fun e w' => e = .returned (.tuple #[]) ∧ ∃ m, w' = sortWorld (encF (n := n)) w blk 0 m (insertionSort (ltOf cf) d 0 n) #[] := by
  have hins := insM g cb n cf blk cap d w hd (by omega) eg hcmp hH hblk 0 n d 0 hd (by omega) (by omega)
  rw [sortWorld_start _ _ _ _ _ hH] at hins
  simp only [Int.natCast_zero] at hins
  generalize hR : insertionSort (ltOf cf) d 0 n = R at hins ⊢
  have hlt : decide ((20 : Int) ≤ (n : Int)) = false := decide_eq_false (by omega)
  have hlt2 : decide ((20 : Int) < (n : Int)) = false := decide_eq_false (by omega)
  clear hcmp hH
  go_enter Try.func32, Try.ntmps32
  go_wp2
  refine wp_loop_rounds 1 ?_
  rw [rounds_succ]
  go_wp2_with (go_at_call 33; (with_reducible refine hins.mono ?_); rintro e w1 ⟨rfl, m, rfl⟩)
  refine wp_loop_rounds 1 ?_
  rw [rounds_succ]
  go_wp2
  exact ⟨rfl, .tuple #[], by simp [results, Try.results32, go_sem], rfl, _, rfl⟩
open Go.Sort in
theorem sortM (g : Nat) (cb : Array Value) (n : Nat) [hI : Inhabited (Fin n)] (cf : Fin n → Fin n → Int) (blk cap : Nat) (d : Array (Fin n)) (w : World) (hd : d.size = n) (h20 : n < 20)
    (eg : ∀ args w, (callFunc g args).run Try.prog w = .ok (.enter g args) w) (hcmp : CmpReads Try.prog g cb (encF (n := n)) cf blk 0 n w) (hH : Holds (encF (n := n)) w blk 0 d) (hblk : blk < w.heap.size) :
    Calls Try.prog 29 #[.slice (some ⟨blk, 0, none⟩) n cap, .func (.func g) #[] cb] w fun e w' => e = .returned (.tuple #[]) ∧ ∃ m, w' = sortWorld (encF (n := n)) w blk 0 m (insertionSort (ltOf cf) d 0 n) #[] := by
  have h := stableM g cb n cf blk cap d w hd h20 eg hcmp hH hblk
  generalize hR : insertionSort (ltOf cf) d 0 n = R at h ⊢
  clear hcmp hH
  go_enter Try.func29, Try.ntmps29
  go_wp2_with (go_at_call 32; (with_reducible refine h.mono ?_); rintro e w1 ⟨rfl, m, rfl⟩)
  exact ⟨rfl, .tuple #[], by simp [results, Try.results29, go_sem], rfl, _, rfl⟩
end Go.Proofs.Ytilmdlaacpefiaa.Q
namespace Go.Proofs.Ytilmdlaacpefiaa.Q
open Go.RowKit Go.Proofs.YtilmdlaacpefiaaW.PrintWords Go.Proofs.YtilmdlaacpefiaaW.PrintLast Go.Proofs.YtilmdlaacpefiaaW.PrintMore
attribute [local go_sem] max2_int min2_int max_two min_two max_three min_three max_four min_four
theorem bnd {α β : Type} {o : Option α} {f : α → Option β} {r : β} (h : o.bind f = some r) : ∃ a, Aside0 (o = some a) ∧ f a = some r := by
  obtain ⟨a, h1, h2⟩ := Option.bind_eq_some_iff.mp h
  exact ⟨a, ⟨h1⟩, h2⟩
theorem ifT {α : Type} {p : Prop} [Decidable p] {a b r : α} (h : (if p then a else b) = r) (hp : p := by rfl) : a = r := by rwa [if_pos hp] at h
theorem ifF {α : Type} {p : Prop} [Decidable p] {a b r : α} (h : (if p then a else b) = r) (hp : ¬ p := by decide) : b = r := by rwa [if_neg hp] at h
theorem bS {w W w2 : World} (h : Below w.heap.size w W) (k : Below W.heap.size W w2) : Aside0 (Below w.heap.size w w2) := ⟨below_step h k⟩
theorem tE {A : Prop} (h : A := by first | rfl | (simp [errW_none, errW_some] <;> rfl) | (simp [*, errW_none, errW_some] <;> rfl)) : A := h
theorem tN {A : Prop} (h : A := by first | omega | exact Nat.le_refl _) : A := h
theorem kO {A G : Prop} (h : Aside0 A) (f : A → G := by intros; omega) : G := f h.out
theorem kN {A B : Prop} (h : Aside0 A) (f : A → B := by intro h_; (repeat (first | (with_reducible first | refine blk_drewN ?_ _ | refine blk_drew ?_ | refine blk_alloc ?_ _) | (apply blk_far; case hp => exact Aside0.out (by assumption)) | (apply blk_put))); exact h_; all_goals first | (simp only [List.setIfInBounds_toArray, List.set_cons_zero, List.set_cons_succ]; done) | (simp only [List.setIfInBounds_toArray, List.set_cons_zero, List.set_cons_succ]; rfl) | rfl) : B := f h.out
section
variable {P : Program} {md : Region.Mode} {ops : Array Oper} {Q : Exit → Act → World → Prop} {S : World → Prop} {ds : List Nat} {T : Bool × List (List Nat × List Nat)}
theorem gL {rest : List Oper} {oi : Oper} {a : Act} {w : World} (N : Option Tmp) {f : FuncId} {fn : Func} {as_ : Array Operand} {ts : Array TypeId} (hf : P.funcs[f]? = some fn) (args : Array Value) {R : Ending → World → Prop} (hc : Calls P f args w R)
    (h : ∀ e w', R e w' → ∃ v, e = .returned v ∧ wpList P ops Q rest (a.put N v) w') (hd : oi.dst = N := by rfl) (hg : oi.guard = none := by rfl)
    (hname : (fn.name == "runtime.NumGoroutine") = false := by kernel_rfl) (hb : fn.body.isSome = true := by rfl)
    (hop : oi.op = .call { callee := .value (.func f), args := as_, argTypes := ts } := by rfl) (hargs : as_.map a.eval = args := by (try simp only [List.map_toArray, List.map_cons, List.map_nil]); first | done | rfl | (simp only [List.length_drop, List.length_take]; rfl)) : wpList P ops Q (oi :: rest) a w :=
  goesL_ N hd hg hf hname hb args hop hargs (hc.mono h)
end
end Go.Proofs.Ytilmdlaacpefiaa.Q
