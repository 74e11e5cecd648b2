-- Written by a program of this session (wip/tools/mk.py), through the kit's print program.
import Derived.Test.YtnfkddanbhibbaaQx0
namespace Go.Proofs.Ytnfkddanbhibbaa.Q
open Go.RowKit Go.Proofs.YtnfkddanbhibbaaW.PrintWords Go.Proofs.YtnfkddanbhibbaaW.PrintLast Go.Proofs.YtnfkddanbhibbaaW.PrintMore
attribute [local go_sem] max2_int min2_int max_two min_two max_three min_three max_four min_four   -- for this text's walks alone
set_option linter.unusedVariables false
set_option linter.unusedSimpArgs false

-- EXTRA
/-! ### shared lemmas of the hand texts -/
theorem hb_wrap64 (x : Int) (h0 : -9223372036854775808 ≤ x) (h1 : x ≤ 9223372036854775807) : wrap64 x = x := by
  unfold wrap64; omega
theorem hb_sq {d : Int} (m : Int) (h0 : -m ≤ d) (h1 : d ≤ m) : 0 ≤ d * d ∧ d * d ≤ m * m := by
  rcases Int.le_total 0 d with h | h
  · exact ⟨Int.mul_nonneg h h, Int.mul_le_mul h1 h1 h (by omega)⟩
  · have e : d * d = (-d) * (-d) := by rw [Int.neg_mul_neg]
    rw [e]
    exact ⟨Int.mul_nonneg (by omega) (by omega), Int.mul_le_mul (by omega) (by omega) (by omega) (by omega)⟩
theorem hb_C_row {k : IntKind} {w : World} {b : Nat} {xs : List Int} {e : TypeId} (hl : xs.length ≤ 9223372036854775807)
    (hh : w.heap[b]? = some (.cells (xs.map (Value.int k)).toArray e (0, 0))) : (Kd.int k).C w (some ⟨b, 0, none⟩) xs.length xs := by
  refine Kd.C_of_reads (d := (0 : Int)) ⟨rfl, hl, fun _ => ⟨_, rfl, fun j hj => ?_⟩⟩
  rw [Addr.add_lit, cell_of_row w b _ _ e (0, 0) hh]
  simp [hj, List.getD_eq_getElem?_getD]
/-- the least n from lo on (before lo + fuel) for which F holds -/
def leastF (F : Int → Bool) (lo : Int) : Nat → Int
  | 0 => lo
  | k + 1 => if F lo then lo else leastF F (lo + 1) k
theorem leastF_spec (F : Int → Bool) : ∀ (k : Nat) (lo : Int), lo ≤ leastF F lo k ∧ leastF F lo k ≤ lo + k ∧ (∀ n, lo ≤ n → n < leastF F lo k → F n = false) ∧ (leastF F lo k < lo + k → F (leastF F lo k) = true)
  | 0, lo => by simp only [leastF]; exact ⟨by omega, by omega, fun n h0 h1 => by omega, fun h => by omega⟩
  | k + 1, lo => by
    simp only [leastF]
    by_cases h : F lo = true
    · rw [if_pos h]; exact ⟨by omega, by omega, fun n h0 h1 => by omega, fun _ => h⟩
    · rw [if_neg h]
      obtain ⟨a, b, c, d⟩ := leastF_spec F k (lo + 1)
      refine ⟨by omega, by omega, fun n h0 h1 => ?_, fun h' => d (by omega)⟩
      by_cases e : n = lo
      · subst e; simpa using h
      · exact c n (by omega) h1
theorem wf_u8 {a : Int} (h : (Lit.int .u8 a).wf = true) : 0 ≤ a ∧ a ≤ 255 := by
  simpa [Lit.wf, IntKind.min, IntKind.max, IntKind.signed, IntKind.bits] using h
theorem wf_u16 {a : Int} (h : (Lit.int .u16 a).wf = true) : 0 ≤ a ∧ a ≤ 65535 := by
  simpa [Lit.wf, IntKind.min, IntKind.max, IntKind.signed, IntKind.bits] using h
theorem wf_i64 {a : Int} (h : (Lit.int .i64 a).wf = true) : -9223372036854775808 ≤ a ∧ a ≤ 9223372036854775807 := by
  simpa [Lit.wf, IntKind.min, IntKind.max, IntKind.signed, IntKind.bits] using h
theorem hb_cells {W w1 : World} (hb : Below W.heap.size W w1) : (∀ b o, b < W.heap.size → w1.cell? ⟨b, o, none⟩ = W.cell? ⟨b, o, none⟩) ∧ (∀ b o, b < W.heap.size → w1.frozen? ⟨b, o, none⟩ = W.frozen? ⟨b, o, none⟩) :=
  ⟨fun b o h => hb.cell (p := ⟨b, o, none⟩) h, fun b o h => hb.frozen (p := ⟨b, o, none⟩) h⟩

end Go.Proofs.Ytnfkddanbhibbaa.Q
