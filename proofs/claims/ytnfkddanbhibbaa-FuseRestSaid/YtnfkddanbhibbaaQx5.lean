-- Written by a program of this session (wip/tools/mk.py), through the kit's print program.
import Derived.Test.YtnfkddanbhibbaaQx0
namespace Go.Proofs.Ytnfkddanbhibbaa.Q
open Go.RowKit Go.Proofs.YtnfkddanbhibbaaW.PrintWords Go.Proofs.YtnfkddanbhibbaaW.PrintLast Go.Proofs.YtnfkddanbhibbaaW.PrintMore
attribute [local go_sem] max2_int min2_int max_two min_two max_three min_three max_four min_four   -- for this text's walks alone
set_option linter.unusedVariables false
set_option linter.unusedSimpArgs false

-- EXTRA
-- ONLY chargepark/chargeparklaw06.FuseRest
/-! ### a make with a capacity of its own -/
theorem take_madeCells (z : Array Value) {a b : Nat} (h : a ≤ b) : (madeCells z b).toList.take a = (madeCells z a).toList := by
  apply List.ext_getElem
  · simp [size_madeCells]; omega
  · intro i h1 h2
    simp [madeCells]
section
variable {P : Program} {o : Oper} {ops : Array Oper} {a : Act} {W : World} {Kc : Act → World → Prop} {Q : Exit → Act → World → Prop} {α : Type}
theorem R_make_cap_step (d : Kd α) {w0 : World} (base e : Nat) (hw : Region.wanted o (yielded ops a.tmps) = true) {N : Tmp} (hd : o.dst = some N) (t : TypeId) (x y : Operand) (ho : o.op = .makeSlice t x y) (n : Int) {m_cap : Int} (hx : a.eval x = .int .i64 n) (hy : a.eval y = .int .i64 m_cap)
    (ht : P.underlying t = some (.slice e)) (z : Value) (bytes : Nat) (hinfo : (P.info? e).map (fun i => (i.zero, i.size, i.bytes)) = some (some z, d.sz, bytes)) (hz : z.cells.size = d.sz) (hs0 : 0 < d.sz) (hb0 : 0 < bytes)
    (z0 : α) {ok okp : Nat → Prop} (hzero : d.M W base okp z0 z.cells.toList) (hok : ∀ k, okp k → ok k) (hfresh : ok W.heap.size) (h0 : 0 ≤ n) (hnm : n ≤ m_cap) (hl : m_cap.toNat * bytes ≤ 281474976710656) (HB : Below base w0 W) (hbase : base ≤ W.heap.size)
    (h : ∀ v1 w1, d.R e w1 base ok v1 (List.replicate n.toNat z0) → Below base w0 w1 → W.grownBy w1 none → (∃ b, v1.ownBlock = some b ∧ W.heap.size ≤ b) → Kc (a.put o.dst v1) w1) : if Region.wanted o (yielded ops a.tmps) = true then Oper.wp P o a W Kc Q else Kc (a.put o.dst undef) W := by
  obtain ⟨c, rfl⟩ := Int.eq_ofNat_of_zero_le (Int.le_trans h0 hnm)
  obtain ⟨m, rfl⟩ := Int.eq_ofNat_of_zero_le h0
  simp only [Int.toNat_natCast] at hl h
  obtain ⟨i0, hi, hzz⟩ := Option.map_eq_some_iff.1 hinfo
  simp only [Prod.mk.injEq] at hzz
  obtain ⟨hz0, hz1, hz2⟩ := hzz
  have hmc : m ≤ c := by omega
  have hm : c ≤ 281474976710656 := Nat.le_trans (Nat.le_mul_of_pos_right _ hb0) hl
  have hr := run_make (P := P) W t e i0 z ht hi hz0 .i64 .i64 (m : Int) (c : Int) (by omega) (by omega)
    (by
      have h3 : ((i0.bytes * c : Nat) : Int) ≤ 281474976710656 := by rw [hz2, Nat.mul_comm]; omega
      rwa [Int.natCast_mul] at h3) (by omega)
  simp only [Int.toNat_natCast] at hr
  rw [hz1] at hr
  have hrun : (execOp a.eval o).run P W = .ok (.value (.slice (some ⟨W.heap.size, 0, none⟩) m c)) (W.alloc (.cells (madeCells z.cells (c * d.sz)) e)) := by
    simp [execOp, ho, hx, hy, hr]
  refine event_step hw hrun (h _ _ ⟨fun k hk => ?_, (madeCells z.cells (m * d.sz)).toList, ?_, ?_⟩ (HB.alloc hbase _) (World.grownBy_alloc W _ none) ⟨W.heap.size, by simp [Value.ownBlock], Nat.le_refl _⟩)
  · have : W.heap.size = k := by simpa [Value.ownBlock] using hk
    subst this
    exact hfresh
  · refine ⟨by simp [size_madeCells], .inr ⟨W.heap.size, c, madeCells z.cells (c * d.sz), ?_, hbase, heap_alloc_new W _, ?_, ?_, ?_, ?_⟩⟩
    · simp
    · simpa using hmc
    · unfold maxLen; omega
    · simp [size_madeCells]
    · simpa using take_madeCells z.cells (Nat.mul_le_mul_right d.sz hmc)
  · refine (Kd.reps_made hz hs0 hzero m).imp_ (fun p c hp => d.M_mono (fun k hk => ⟨hok k hk.1, fun he => ?_⟩) (Kd.M_below (d.M_bound hp) (below_alloc (Below.refl _ _) _)))
    have h3 : k = W.heap.size := by simpa [Value.ownBlock] using he
    have := hk.2.2.1
    omega
end

end Go.Proofs.Ytnfkddanbhibbaa.Q
