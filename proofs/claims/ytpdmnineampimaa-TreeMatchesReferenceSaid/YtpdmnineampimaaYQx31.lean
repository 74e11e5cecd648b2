import Derived.Test.YtpdmnineampimaaYe
set_option linter.unusedVariables false
set_option linter.unusedSimpArgs false
namespace Go.Proofs.Ytpdmnineampimaa.Q
open Go.RowKit Go.Proofs.YtpdmnineampimaaW.PrintWords Go.Proofs.YtpdmnineampimaaW.PrintLast Go.Proofs.YtpdmnineampimaaW.PrintMore
attribute [local go_sem] max2_int min2_int max_two min_two max_three min_three max_four min_four
def w08_charger.f (a0 : ByteArray) (a1 : Int) (a2 : Int) : Option (ByteArray × Int × Int × Int × Int × Int × Int × Int) := some (a0, a1, a2, 6, 32, 1, 0, 0)
set_option maxHeartbeats 8000000 in
set_option maxRecDepth 100000 in
theorem w08_charger.calls (a0 : ByteArray) (a1 : Int) (a2 : Int) (r1 : ByteArray) (r2 : Int) (r3 : Int) (r4 : Int) (r5 : Int) (r6 : Int) (r7 : Int) (r8 : Int) (w : World) (h : w08_charger.f a0 a1 a2 = some (r1, r2, r3, r4, r5, r6, r7, r8)) :
    Calls Try.prog 25 #[.string a0, .int .i64 a1, .int .i64 a2] w fun e w' => e = .returned (.agg #[.string r1, .int .i64 r2, .int .i64 r3, .int .i64 r4, .int .i64 r5, .int .i64 r6, .int .i64 r7, .int .i64 r8]) ∧ Below w.heap.size w w' := by
 have hu42 := Try.underlying42
 have HB := Aside0.mk (Below.refl w.heap.size w)
 (try unfold w08_charger.f at h)
 have H := h
 clear h
 simp only [Option.some.injEq, Prod.mk.injEq] at H
 obtain ⟨rfl, rfl, rfl, rfl, rfl, rfl, rfl, rfl⟩ := H
 go_enter Try.func25, Try.ntmps25
 go_wp2_with (first | ((with_reducible refine gate_dst (N := 6) rfl ?_); refine bE 6 42 #[.string (⟨#[]⟩ : ByteArray), .int .i64 0, .int .i64 0, .int .i64 0, .int .i64 0, .int .i64 0, .int .i64 0, .int .i64 0] ?_; intro gb133 hg w4 hbox hb; have BK133 := Aside0.mk hbox; have GW133 := gE hg (kB HB); have GE133 := gE hg (kB HB); replace HB := bS (kB HB) hb; clear hb hbox hg; obtain ⟨⟨_,_,_,_,_,_,_,_⟩,_,_,_,_,_,_,_,_⟩ := bx8 BK133))
 refine bodyPost_ret (results_cell_row rfl _ _ gb133 42 #[.string a0, .int .i64 a1, .int .i64 a2, .int .i64 6, .int .i64 32, .int .i64 1, .int .i64 0, .int .i64 0] (0, 0) _ rfl (kN BK133) Try.underlying42 rfl (by kernel_rfl)) rfl ?_
 exact ⟨tE, kB1 HB GE133⟩
end Go.Proofs.Ytpdmnineampimaa.Q
