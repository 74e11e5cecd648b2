import Derived.Test.YtilmdlaacpefiaaZe
set_option linter.unusedVariables false
set_option linter.unusedSimpArgs false
set_option linter.unusedSectionVars false
namespace Go.Proofs.Ytilmdlaacpefiaa.Q
open Go.RowKit Go.Proofs.YtilmdlaacpefiaaW.PrintWords Go.Proofs.YtilmdlaacpefiaaW.PrintLast Go.Proofs.YtilmdlaacpefiaaW.PrintMore
attribute [local go_sem] max2_int min2_int max_two min_two max_three min_three max_four min_four
def money_Times.f (a0 : Int) (a1 : Int) (a2 : Int) : Option (Int × Int) := if (0 ≤ a0 ∧ a0 ≤ 1000000000) ∧ (0 ≤ a1 ∧ a1 ≤ 1000000000) ∧ (1 ≤ a2 ∧ a2 ≤ 1000000000) then (if (2 * (a0 * a1) + a2) / (2 * a2) ≤ 1000000000 then some ((2 * (a0 * a1) + a2) / (2 * a2), 0) else some (0, 3)) else some (0, 1)
theorem money_Times.calls (a0 : Int) (a1 : Int) (a2 : Int) (r1 : Int) (r2 : Int) (w : World) (h : money_Times.f a0 a1 a2 = some (r1, r2)) :
    Calls Try.prog 11 #[.int .i64 a0, .int .i64 a1, .int .i64 a2] w fun e w' => e = .returned (.tuple #[.int .i64 r1, .int .i64 r2]) ∧ Below w.heap.size w w' := by
  unfold money_Times.f at h
  by_cases k0 : 0 ≤ a0 ∧ a0 ≤ 1000000000
  case neg =>
    rw [if_neg (fun z => k0 (by obtain ⟨z0, z1, z2⟩ := z; exact z0))] at h
    simp only [Option.some.injEq, Prod.mk.injEq] at h
    obtain ⟨rfl, rfl⟩ := h
    exact times_bad0 a0 a1 a2 w k0
  by_cases k1 : 0 ≤ a1 ∧ a1 ≤ 1000000000
  case neg =>
    rw [if_neg (fun z => k1 (by obtain ⟨z0, z1, z2⟩ := z; exact z1))] at h
    simp only [Option.some.injEq, Prod.mk.injEq] at h
    obtain ⟨rfl, rfl⟩ := h
    exact times_bad1 a0 a1 a2 w k0 k1
  by_cases k2 : 1 ≤ a2 ∧ a2 ≤ 1000000000
  case neg =>
    rw [if_neg (fun z => k2 (by obtain ⟨z0, z1, z2⟩ := z; exact z2))] at h
    simp only [Option.some.injEq, Prod.mk.injEq] at h
    obtain ⟨rfl, rfl⟩ := h
    exact times_bad2 a0 a1 a2 w k0 k1 k2
  rw [if_pos ⟨k0, k1, k2⟩] at h
  have q0 : 0 ≤ (2 * (a0 * a1) + a2) / (2 * a2) := Int.ediv_nonneg (by have := Int.mul_nonneg k0.1 k1.1; omega) (by omega)
  by_cases m : (2 * (a0 * a1) + a2) / (2 * a2) ≤ 1000000000
  · rw [if_pos m] at h
    simp only [Option.some.injEq, Prod.mk.injEq] at h
    obtain ⟨rfl, rfl⟩ := h
    exact times_fine a0 a1 a2 w k0 k1 k2 ⟨q0, m⟩
  · rw [if_neg m] at h
    simp only [Option.some.injEq, Prod.mk.injEq] at h
    obtain ⟨rfl, rfl⟩ := h
    exact times_over a0 a1 a2 w k0 k1 k2 (fun z => m z.2)
def money_Started.f (a0 : Int) (a1 : Int) (a2 : Int) : Option (Int × Int) := if (0 ≤ a0 ∧ a0 ≤ 1000000000) ∧ (0 ≤ a1 ∧ a1 ≤ 1000000000) ∧ (1 ≤ a2 ∧ a2 ≤ 1000000000) then (if a0 * ((a1 + a2 - 1) / a2) ≤ 1000000000 then some (a0 * ((a1 + a2 - 1) / a2), 0) else some (0, 3)) else some (0, 1)
theorem money_Started.calls (a0 : Int) (a1 : Int) (a2 : Int) (r1 : Int) (r2 : Int) (w : World) (h : money_Started.f a0 a1 a2 = some (r1, r2)) :
    Calls Try.prog 13 #[.int .i64 a0, .int .i64 a1, .int .i64 a2] w fun e w' => e = .returned (.tuple #[.int .i64 r1, .int .i64 r2]) ∧ Below w.heap.size w w' := by
  unfold money_Started.f at h
  by_cases k0 : 0 ≤ a0 ∧ a0 ≤ 1000000000
  case neg =>
    rw [if_neg (fun z => k0 (by obtain ⟨z0, z1, z2⟩ := z; exact z0))] at h
    simp only [Option.some.injEq, Prod.mk.injEq] at h
    obtain ⟨rfl, rfl⟩ := h
    exact started_bad0 a0 a1 a2 w k0
  by_cases k1 : 0 ≤ a1 ∧ a1 ≤ 1000000000
  case neg =>
    rw [if_neg (fun z => k1 (by obtain ⟨z0, z1, z2⟩ := z; exact z1))] at h
    simp only [Option.some.injEq, Prod.mk.injEq] at h
    obtain ⟨rfl, rfl⟩ := h
    exact started_bad1 a0 a1 a2 w k0 k1
  by_cases k2 : 1 ≤ a2 ∧ a2 ≤ 1000000000
  case neg =>
    rw [if_neg (fun z => k2 (by obtain ⟨z0, z1, z2⟩ := z; exact z2))] at h
    simp only [Option.some.injEq, Prod.mk.injEq] at h
    obtain ⟨rfl, rfl⟩ := h
    exact started_bad2 a0 a1 a2 w k0 k1 k2
  rw [if_pos ⟨k0, k1, k2⟩] at h
  have q0 : 0 ≤ a0 * ((a1 + a2 - 1) / a2) := Int.mul_nonneg k0.1 (Int.ediv_nonneg (by omega) (by omega))
  by_cases m : a0 * ((a1 + a2 - 1) / a2) ≤ 1000000000
  · rw [if_pos m] at h
    simp only [Option.some.injEq, Prod.mk.injEq] at h
    obtain ⟨rfl, rfl⟩ := h
    exact started_fine a0 a1 a2 w k0 k1 k2 ⟨q0, m⟩
  · rw [if_neg m] at h
    simp only [Option.some.injEq, Prod.mk.injEq] at h
    obtain ⟨rfl, rfl⟩ := h
    exact started_over a0 a1 a2 w k0 k1 k2 (fun z => m z.2)
def money_Tax.f (a0 : Int) (a1 : Int) : Option (Int × Int) := if (0 ≤ a0 ∧ a0 ≤ 1000000000) ∧ (0 ≤ a1 ∧ a1 ≤ 100000) then (if (2 * (a0 * a1) + 10000) / 20000 ≤ 1000000000 then some ((2 * (a0 * a1) + 10000) / 20000, 0) else some (0, 3)) else some (0, 1)
theorem money_Tax.calls (a0 : Int) (a1 : Int) (r1 : Int) (r2 : Int) (w : World) (h : money_Tax.f a0 a1 = some (r1, r2)) :
    Calls Try.prog 15 #[.int .i64 a0, .int .i64 a1] w fun e w' => e = .returned (.tuple #[.int .i64 r1, .int .i64 r2]) ∧ Below w.heap.size w w' := by
  unfold money_Tax.f at h
  by_cases k0 : 0 ≤ a0 ∧ a0 ≤ 1000000000
  case neg =>
    rw [if_neg (fun z => k0 (by obtain ⟨z0, z1⟩ := z; exact z0))] at h
    simp only [Option.some.injEq, Prod.mk.injEq] at h
    obtain ⟨rfl, rfl⟩ := h
    exact tax_bad0 a0 a1 w k0
  by_cases k1 : 0 ≤ a1 ∧ a1 ≤ 100000
  case neg =>
    rw [if_neg (fun z => k1 (by obtain ⟨z0, z1⟩ := z; exact z1))] at h
    simp only [Option.some.injEq, Prod.mk.injEq] at h
    obtain ⟨rfl, rfl⟩ := h
    exact tax_bad1 a0 a1 w k0 k1
  rw [if_pos ⟨k0, k1⟩] at h
  have q0 : 0 ≤ (2 * (a0 * a1) + 10000) / 20000 := Int.ediv_nonneg (by have := Int.mul_nonneg k0.1 k1.1; omega) (by omega)
  by_cases m : (2 * (a0 * a1) + 10000) / 20000 ≤ 1000000000
  · rw [if_pos m] at h
    simp only [Option.some.injEq, Prod.mk.injEq] at h
    obtain ⟨rfl, rfl⟩ := h
    exact tax_fine a0 a1 w k0 k1 ⟨q0, m⟩
  · rw [if_neg m] at h
    simp only [Option.some.injEq, Prod.mk.injEq] at h
    obtain ⟨rfl, rfl⟩ := h
    exact tax_over a0 a1 w k0 k1 (fun z => m z.2)
end Go.Proofs.Ytilmdlaacpefiaa.Q
