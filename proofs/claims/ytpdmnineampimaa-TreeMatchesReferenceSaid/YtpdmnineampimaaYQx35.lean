import Derived.Test.YtpdmnineampimaaYe
set_option linter.unusedVariables false
set_option linter.unusedSimpArgs false
namespace Go.Proofs.Ytpdmnineampimaa.Q
open Go.RowKit Go.Proofs.YtpdmnineampimaaW.PrintWords Go.Proofs.YtpdmnineampimaaW.PrintLast Go.Proofs.YtpdmnineampimaaW.PrintMore
attribute [local go_sem] max2_int min2_int max_two min_two max_three min_three max_four min_four
def r02_Words.f  : Option (List ByteArray) := some (([(⟨#[111, 110]⟩ : ByteArray), (⟨#[119, 111, 114, 107]⟩ : ByteArray), (⟨#[115, 97, 116, 117, 114, 100, 97, 121]⟩ : ByteArray), (⟨#[115, 117, 110, 100, 97, 121]⟩ : ByteArray), (⟨#[98, 101, 116, 119, 101, 101, 110]⟩ : ByteArray), (⟨#[112, 101, 114]⟩ : ByteArray), (⟨#[102, 114, 101, 101]⟩ : ByteArray)] : List ByteArray))
set_option maxHeartbeats 8000000 in
set_option maxRecDepth 100000 in
theorem r02_Words.calls  (r : List ByteArray) (w : World) (h : r02_Words.f  = some r) :
    Calls Try.prog 62 #[] w fun e w' => ∃ v0_ : Value, e = .returned (v0_) ∧ Kd.R Kd.string 9 w' w.heap.size (fun _ => True) v0_ r ∧ Below w.heap.size w w' := by
 have HB := Aside0.mk (Below.refl w.heap.size w)
 (try unfold r02_Words.f at h)
 have H := h
 clear h
 obtain ⟨y285, hy285⟩ : ∃ y_ : List ByteArray, y_ = (([(⟨#[111, 110]⟩ : ByteArray), (⟨#[119, 111, 114, 107]⟩ : ByteArray), (⟨#[115, 97, 116, 117, 114, 100, 97, 121]⟩ : ByteArray), (⟨#[115, 117, 110, 100, 97, 121]⟩ : ByteArray), (⟨#[98, 101, 116, 119, 101, 101, 110]⟩ : ByteArray), (⟨#[112, 101, 114]⟩ : ByteArray), (⟨#[102, 114, 101, 101]⟩ : ByteArray)] : List ByteArray)) := ⟨_, rfl⟩
 replace H : (some y285) = some r := by first | (rw [hy285]; with_reducible exact H) | (have H2_ := (Option.bind_some _ _).symm.trans H; rw [hy285]; with_reducible exact H2_) | (have H2_ := (Option.bind_some _ _).symm.trans H; with_reducible exact H2_) | with_reducible exact H | (rw [hy285]; exact H) | exact H
 have Ny285 := Aside0.mk hy285
 clear hy285
 obtain rfl := Option.some.inj H
 go_enter Try.func62, Try.ntmps62
 go_wp2_with (first | ((with_reducible refine gate_dst (N := 1) rfl ?_); refine Kd.R_lit Kd.string _ 9 ?hg (N := 1) ?hd (xs := ([(⟨#[111, 110]⟩ : ByteArray), (⟨#[119, 111, 114, 107]⟩ : ByteArray), (⟨#[115, 97, 116, 117, 114, 100, 97, 121]⟩ : ByteArray), (⟨#[115, 117, 110, 100, 97, 121]⟩ : ByteArray), (⟨#[98, 101, 116, 119, 101, 101, 110]⟩ : ByteArray), (⟨#[112, 101, 114]⟩ : ByteArray), (⟨#[102, 114, 101, 101]⟩ : ByteArray)] : List ByteArray)) (inner := [.string (⟨#[111, 110]⟩ : ByteArray), .string (⟨#[119, 111, 114, 107]⟩ : ByteArray), .string (⟨#[115, 97, 116, 117, 114, 100, 97, 121]⟩ : ByteArray), .string (⟨#[115, 117, 110, 100, 97, 121]⟩ : ByteArray), .string (⟨#[98, 101, 116, 119, 101, 101, 110]⟩ : ByteArray), .string (⟨#[112, 101, 114]⟩ : ByteArray), .string (⟨#[102, 114, 101, 101]⟩ : ByteArray)]) (ok := fun _ => True) (okp := fun _ => True) ?hr ?hp (fun _ hk => hk) trivial (Below.refl _ _) (Nat.le_refl _) (by simp) ?_; (case hd => rfl); (case hg => rfl); (case hr => first | (go_simp; done) | (go_simp; rfl)); (case hp => exact (Reps.one (show Kd.M Kd.string _ _ _ (⟨#[111, 110]⟩ : ByteArray) [.string (⟨#[111, 110]⟩ : ByteArray)] from rfl) (Reps.one (show Kd.M Kd.string _ _ _ (⟨#[119, 111, 114, 107]⟩ : ByteArray) [.string (⟨#[119, 111, 114, 107]⟩ : ByteArray)] from rfl) (Reps.one (show Kd.M Kd.string _ _ _ (⟨#[115, 97, 116, 117, 114, 100, 97, 121]⟩ : ByteArray) [.string (⟨#[115, 97, 116, 117, 114, 100, 97, 121]⟩ : ByteArray)] from rfl) (Reps.one (show Kd.M Kd.string _ _ _ (⟨#[115, 117, 110, 100, 97, 121]⟩ : ByteArray) [.string (⟨#[115, 117, 110, 100, 97, 121]⟩ : ByteArray)] from rfl) (Reps.one (show Kd.M Kd.string _ _ _ (⟨#[98, 101, 116, 119, 101, 101, 110]⟩ : ByteArray) [.string (⟨#[98, 101, 116, 119, 101, 101, 110]⟩ : ByteArray)] from rfl) (Reps.one (show Kd.M Kd.string _ _ _ (⟨#[112, 101, 114]⟩ : ByteArray) [.string (⟨#[112, 101, 114]⟩ : ByteArray)] from rfl) (Reps.one (show Kd.M Kd.string _ _ _ (⟨#[102, 114, 101, 101]⟩ : ByteArray) [.string (⟨#[102, 114, 101, 101]⟩ : ByteArray)] from rfl) (Reps.none _ _))))))))); intro v286 w1 ho2 hb hg_ hnew_; clear hg_ hnew_; (first | rw [← Ny285.out] at ho2 | (simp only [Int.reduceToNat] at ho2; rw [← Ny285.out] at ho2)); have HO287 := Aside0.mk (Kd.R_lower ho2 (below_size (kB HB))); replace HB := bS (kB HB) hb; clear hb ho2))
 go_ret
 exact ⟨_, tE, by (with_reducible repeat (first | apply Kd.R_alloc | apply Kd.R_drewN | apply Kd.R_drew)); exact HO287.out, kB HB⟩
end Go.Proofs.Ytpdmnineampimaa.Q
