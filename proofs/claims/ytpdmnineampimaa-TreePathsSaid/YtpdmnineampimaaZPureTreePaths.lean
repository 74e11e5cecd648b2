/-
For every site and pick: the path of a charger begins with its conductor and ends with the feeder; each next element is the Up of the one before, and less.
-/
import Derived.Test.YtpdmnineampimaaZQx49
import Derived.Test.YtpdmnineampimaaZQx25
import Derived.Test.YtpdmnineampimaaZBvalid
import Derived.Test.YtpdmnineampimaaZBtree
namespace Go.Proofs.Ytpdmnineampimaa.Pure
open Go.RowKit Go.Proofs.Ytpdmnineampimaa.Q Go.Proofs.YtpdmnineampimaaW.PrintWords Go.Proofs.YtpdmnineampimaaW.PrintLast Go.Proofs.YtpdmnineampimaaW.PrintMore Go.Proofs.Ytpdmnineampimaa.Basevalid Go.Proofs.Ytpdmnineampimaa.Basetree

theorem tp_loop {l0 : List S48} {l1 : List S62} {l2 : List S84} {l3 : List S42} {l4 : List S87} {a : Int} {p : List Int} (h : PathF l0 a p) : ∀ (d k i : Nat), i + 1 + d = p.length → d < k →
    w08_TreePaths.l0 k true p (i + 1 : Nat) l0 l1 l2 l3 l4 = some true := by
  have hle := h.le
  intro d
  induction d with
  | zero =>
    intro k i hi hk
    obtain ⟨k, rfl⟩ : ∃ k', k = k' + 1 := ⟨k - 1, by omega⟩
    simp only [w08_TreePaths.l0]; rw [if_neg (by omega)]
  | succ d ih =>
    intro k i hi hk
    obtain ⟨k, rfl⟩ : ∃ k', k = k' + 1 := ⟨k - 1, by omega⟩
    have g := h.get i (by omega)
    have g1 := h.get (i + 1) (by omega)
    have nx := h.next i (by omega)
    simp only [w08_TreePaths.l0]
    rw [hb_wrap64 (((i + 1 : Nat) : Int) - 1) (by omega) (by omega), hb_wrap64 (((i + 1 : Nat) : Int) + 1) (by omega) (by omega)]
    rw [show ((i + 1 : Nat) : Int) - 1 = (i : Int) by omega, show ((i + 1 : Nat) : Int) + 1 = ((i + 1 + 1 : Nat) : Int) by omega, g1.1, g.1, nx.1]
    rw [if_pos (by omega), if_pos (by omega), if_neg (by omega), if_pos (by omega), if_pos (by omega), if_neg (by omega), if_pos (by omega), if_pos (by omega), if_pos rfl]
    exact ih k (i + 1) (by omega) (by omega)
theorem TreePaths : w08_TreePaths.Pure := by
  intro s a1 w w1
  obtain ⟨K1, hK1⟩ := head_ok
  obtain ⟨K2, hK2⟩ := usable_ok (hs_of w)
  have ha := wf_u8 w1
  refine ⟨K1 + K2 + 30, ?_⟩
  unfold w08_TreePaths.f
  rw [show w08_head.f (K1 + K2 + 30) = some true from hK1 _ (by omega), show w08_usable.f (K1 + K2 + 30) _ _ _ _ _ = _ from hK2 _ (by omega)]
  simp only [Option.bind_some]
  rw [show K1 + K2 + 30 = (K1 + K2 + 28) + 1 + 1 by omega]
  cases hv : validB s.f0 s.f1 s.f2 s.f3 s.f4
  · simp [w08_TreePaths.j0]
  · have F := valid_fine hv
    have hn3 := F.n3
    rw [if_pos rfl]
    simp only [w08_TreePaths.j0]
    by_cases hz : s.f3.length = 0
    · rw [if_pos (by simp [hz])]
    · rw [if_neg (by simpa using hz), if_neg (by omega), hb_wrap64 a1 (by omega) (by omega)]
      have hm0 : 0 ≤ Int.tmod a1 (s.f3.length : Int) := by rw [Int.tmod_eq_emod_of_nonneg ha.1]; exact Int.emod_nonneg _ (by omega)
      have hm1 : Int.tmod a1 (s.f3.length : Int) < (s.f3.length : Int) := by rw [Int.tmod_eq_emod_of_nonneg ha.1]; exact Int.emod_lt_of_pos _ (by omega)
      generalize Int.tmod a1 (s.f3.length : Int) = c at hm0 hm1
      have hat := F.at_ hm0 hm1
      have P := fs_path F hat.1 hat.2
      have hp := P.pos
      have hle := P.le
      unfold tree_Path.f
      rw [if_pos ⟨hm0, hm1⟩, sv_ok w, hv]
      simp only [Option.bind_some, if_true]
      have g0 := P.get 0 hp
      have gl := P.get ((upL s.f0 17 (rd_T42 s.f3 c).f1).length - 1) (by omega)
      rw [P.last] at gl
      rw [hb_wrap64 (((upL s.f0 17 (rd_T42 s.f3 c).f1).length : Int) - 1) (by omega) (by omega)]
      rw [show ((upL s.f0 17 (rd_T42 s.f3 c).f1).length : Int) - 1 = (((upL s.f0 17 (rd_T42 s.f3 c).f1).length - 1 : Nat) : Int) by omega, gl.1]
      have e0 : rd (upL s.f0 17 (rd_T42 s.f3 c).f1) 0 = (rd_T42 s.f3 c).f1 := g0.1
      rw [if_neg (by omega), if_pos (by omega), if_pos hm0, if_pos hm1, if_pos e0, if_pos (by omega), if_pos (by omega)]
      simp only [w08_TreePaths.j1]
      rw [if_neg (by decide)]
      exact tp_loop P ((upL s.f0 17 (rd_T42 s.f3 c).f1).length - 1) _ 0 (by omega) (by omega)

end Go.Proofs.Ytpdmnineampimaa.Pure
