-- Written by a program of this session (wip/tools/mk.py), through the kit's print program.
import Derived.Test.YtnfkddanbhibbaaQx0
import Derived.Test.YtnfkddanbhibbaaQx4
namespace Go.Proofs.Ytnfkddanbhibbaa.Q
open Go.RowKit Go.Proofs.YtnfkddanbhibbaaW.PrintWords Go.Proofs.YtnfkddanbhibbaaW.PrintLast Go.Proofs.YtnfkddanbhibbaaW.PrintMore
attribute [local go_sem] max2_int min2_int max_two min_two max_three min_three max_four min_four   -- for this text's walks alone
set_option linter.unusedVariables false
set_option linter.unusedSimpArgs false

/-! ### what arguments read as -/
section
variable {H : Type} {enc : TypeId × Value → H} {W : World}
theorem op_3 : Opens enc Try.prog W 3 (Kd.int .i64) (fun x_ => (Lit.int .i64 x_).wf = true) := opens_int Try.underlying3
def wfS23 (x : S23) : Prop := ((Lit.int .i64 x.f0).wf = true) ∧ ((Lit.int .i64 x.f1).wf = true)
theorem op_23 : Opens enc Try.prog W 23 k23 wfS23 := by
  intro base spare held fuel cs x h
  obtain ⟨xs, n, _, _, hlen, hxl, hf⟩ := DataW.trod_struct Try.underlying23 h
  have hcl : Try.prog.cellsOf 23 = 2 := by kernel_rfl
  rw [hcl] at hlen
  obtain ⟨c0, c1, rfl⟩ : ∃ c0 c1, cs = [c0, c1] := by
    match cs, hlen with
    | [c0, c1], _ => exact ⟨c0, c1, rfl⟩
  have q0 : Try.prog.cellsOf 3 = 1 := by kernel_rfl
  have g0 := hf 0 _ rfl
  obtain ⟨y0, hy0⟩ : ∃ y, xs[0]? = some y := ⟨_, List.getElem?_eq_getElem (by rw [hxl]; decide)⟩
  have G0 : DataW.trod enc Try.prog W base spare held n 3 [c0] = some y0 := by rw [← hy0, ← g0]; show _ = DataW.trod enc Try.prog W base spare held n 3 (List.take (Try.prog.cellsOf 3) _); rw [q0]; rfl
  obtain ⟨b0, K0, w0⟩ := op_3 _ _ _ _ _ _ G0
  obtain rfl : c0 = .int .i64 b0 := hd_eq_of_cons K0
  have q1 : Try.prog.cellsOf 3 = 1 := by kernel_rfl
  have g1 := hf 1 _ rfl
  obtain ⟨y1, hy1⟩ : ∃ y, xs[1]? = some y := ⟨_, List.getElem?_eq_getElem (by rw [hxl]; decide)⟩
  have G1 : DataW.trod enc Try.prog W base spare held n 3 [c1] = some y1 := by rw [← hy1, ← g1]; show _ = DataW.trod enc Try.prog W base spare held n 3 (List.take (Try.prog.cellsOf 3) _); rw [q1]; rfl
  obtain ⟨b1, K1, w1⟩ := op_3 _ _ _ _ _ _ G1
  obtain rfl : c1 = .int .i64 b1 := hd_eq_of_cons K1
  exact ⟨⟨b0, b1⟩, k23_mk W ⟨b0, b1⟩ , ⟨w0, w1⟩⟩
theorem op_24 : Opens enc Try.prog W 24 (Kd.slice 3 (Kd.int .i64)) (fun x_ => x_.length ≤ maxLen ∧ ∀ y_ ∈ x_, (Lit.int .i64 y_).wf = true) := opens_slice Try.underlying24 (by kernel_rfl) op_3
theorem op_5 : Opens enc Try.prog W 5 (Kd.int .u8) (fun x_ => (Lit.int .u8 x_).wf = true) := opens_int Try.underlying5
theorem op_35 : Opens enc Try.prog W 35 (Kd.slice 5 (Kd.int .u8)) (fun x_ => x_.length ≤ maxLen ∧ ∀ y_ ∈ x_, (Lit.int .u8 y_).wf = true) := opens_slice Try.underlying35 (by kernel_rfl) op_5
end

end Go.Proofs.Ytnfkddanbhibbaa.Q
