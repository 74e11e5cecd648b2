/-
For every site and list of bytes: the three loads of the feeder together are the sum over all chargers of the current times the number of their phases; no load is greater than that of the feeder.
-/
import Derived.Test.YtpdmnineampimaaYQx57
import Derived.Test.YtpdmnineampimaaYBvalid
import Derived.Test.YtpdmnineampimaaYBtree
import Derived.Test.YtpdmnineampimaaYBloads
namespace Go.Proofs.Ytpdmnineampimaa.Pure
open Go.RowKit Go.Proofs.Ytpdmnineampimaa.Q Go.Proofs.YtpdmnineampimaaW.PrintWords Go.Proofs.YtpdmnineampimaaW.PrintLast Go.Proofs.YtpdmnineampimaaW.PrintMore Go.Proofs.Ytpdmnineampimaa.Basevalid Go.Proofs.Ytpdmnineampimaa.Basetree Go.Proofs.Ytpdmnineampimaa.Baseloads

section
variable {l0 : List S48} {l1 : List S62} {l2 : List S84} {l3 : List S42} {l4 : List S87}
def bv (n : Int) (q : Nat) : Int := if bitOf n q = true then 1 else 0
theorem bits_val (n : Int) (h1 : 1 ≤ n) (h2 : n ≤ 7) : Go.bits .and .i64 n 1 = bv n 0 ∧ Go.bits .and .i64 (n / 2) 1 = bv n 1 ∧ Go.bits .and .i64 (n / 4) 1 = bv n 2 := by
  have : n = 1 ∨ n = 2 ∨ n = 3 ∨ n = 4 ∨ n = 5 ∨ n = 6 ∨ n = 7 := by omega
  rcases this with rfl | rfl | rfl | rfl | rfl | rfl | rfl <;> decide +kernel
def wantL (l3 : List S42) (amps : List Int) : Nat → Int
  | 0 => 0
  | i + 1 => wantL l3 amps i + rd amps i * (bv (rd_T42 l3 (i : Int)).f2 0 + bv (rd_T42 l3 (i : Int)).f2 1 + bv (rd_T42 l3 (i : Int)).f2 2)
theorem bv_bd (n : Int) (q : Nat) : 0 ≤ bv n q ∧ bv n q ≤ 1 := by unfold bv; split <;> omega
theorem want_eq (F : FineS l0 l1 l2 l3 l4) (amps : List Int) : ∀ i, i ≤ l3.length → sumL l0 l3 amps 0 0 i + sumL l0 l3 amps 0 1 i + sumL l0 l3 amps 0 2 i = wantL l3 amps i
  | 0, _ => rfl
  | i + 1, h => by
    have a := F.at_ (a := (i : Int)) (by omega) (by omega)
    have z : (0 : Int) ∈ wayL l0 l3 i := fs_zero F a.1 a.2
    have ih := want_eq F amps i (by omega)
    simp only [sumL, wantL, z, true_and, ← ih, bv]
    split <;> split <;> split <;> omega
theorem want_bd (F : FineS l0 l1 l2 l3 l4) {amps : List Int} (ha : AmpsF l3.length amps) (i : Nat) (hi : i ≤ l3.length) : 0 ≤ wantL l3 amps i ∧ wantL l3 amps i ≤ 4000 := by
  rw [← want_eq F amps i hi]
  have := sum_bd (l0 := l0) (l3 := l3) ha.get 0 0 i hi
  have := sum_bd (l0 := l0) (l3 := l3) ha.get 0 1 i hi
  have := sum_bd (l0 := l0) (l3 := l3) ha.get 0 2 i hi
  have := F.n3
  omega
theorem sum_mono (F : FineS l0 l1 l2 l3 l4) {amps : List Int} (ha : AmpsF l3.length amps) (c : Int) (p : Nat) : ∀ i, i ≤ l3.length → sumL l0 l3 amps c p i ≤ sumL l0 l3 amps 0 p i
  | 0, _ => Int.le_refl _
  | i + 1, h => by
    have a := F.at_ (a := (i : Int)) (by omega) (by omega)
    have z : (0 : Int) ∈ wayL l0 l3 i := fs_zero F a.1 a.2
    have ih := sum_mono F ha c p i (by omega)
    have b := ha.get i (by omega)
    simp only [sumL, z, true_and]
    split
    · rename_i g; rw [if_pos g.2]; omega
    · split <;> omega
theorem tf_l1 (F : FineS l0 l1 l2 l3 l4) {amps : List Int} (ha : AmpsF l3.length amps) : ∀ (d c : Nat), c + d = l0.length →
    Evt (fun k => w08_TreeFeeder.l1 k true (loadsV l0 l3 amps) (wantL l3 amps l3.length) (loadsV l0 l3 amps) l0.length c) true := by
  have hn0 := F.n0
  have hlen := loadsV_len (l0 := l0) (l3 := l3) amps
  have z := loads_at F ha.get 0 (by omega)
  have we := want_eq F amps l3.length (Nat.le_refl _)
  have wb := want_bd F ha l3.length (Nat.le_refl _)
  have b0 := sum_bd (l0 := l0) (l3 := l3) ha.get 0 0 l3.length (Nat.le_refl _)
  have b1 := sum_bd (l0 := l0) (l3 := l3) ha.get 0 1 l3.length (Nat.le_refl _)
  have b2 := sum_bd (l0 := l0) (l3 := l3) ha.get 0 2 l3.length (Nat.le_refl _)
  simp only [Int.natCast_zero, Int.cast_ofNat_Int] at z
  intro d
  induction d with
  | zero =>
    intro c hc
    refine Evt.const fun k _ => ?_
    simp only [w08_TreeFeeder.l1, hlen, z]
    rw [if_neg (by omega), if_pos trivial, if_pos (by omega), hb_wrap64 (sumL l0 l3 amps 0 0 l3.length + sumL l0 l3 amps 0 1 l3.length) (by omega) (by omega), hb_wrap64 _ (by omega) (by omega), we]; simp
  | succ d ih =>
    intro c hc
    have g := loads_at F ha.get c (by omega)
    have m0 := sum_mono F ha (c : Int) 0 l3.length (Nat.le_refl _)
    have m1 := sum_mono F ha (c : Int) 1 l3.length (Nat.le_refl _)
    have m2 := sum_mono F ha (c : Int) 2 l3.length (Nat.le_refl _)
    have s3 : Evt (fun k => w08_TreeFeeder.l2 k true (loadsV l0 l3 amps) (wantL l3 amps l3.length) (loadsV l0 l3 amps) l0.length c 3 (sumL l0 l3 amps c 0 l3.length) (sumL l0 l3 amps c 1 l3.length) (sumL l0 l3 amps c 2 l3.length)) true := by
      refine (ih (c + 1) (by omega)).step fun k _ => ?_
      simp only [w08_TreeFeeder.l2]
      rw [if_neg (by omega), hb_wrap64 _ (by omega) (by omega)]; rfl
    have s2 : Evt (fun k => w08_TreeFeeder.l2 k true (loadsV l0 l3 amps) (wantL l3 amps l3.length) (loadsV l0 l3 amps) l0.length c 2 (sumL l0 l3 amps c 0 l3.length) (sumL l0 l3 amps c 1 l3.length) (sumL l0 l3 amps c 2 l3.length)) true := by
      refine s3.step fun k _ => ?_
      simp only [w08_TreeFeeder.l2, hlen, z]
      rw [if_pos (by omega), if_neg (by omega), if_neg (by omega), if_pos trivial, if_pos (by omega), if_neg (by omega), hb_wrap64 _ (by omega) (by omega)]; rfl
    have s1 : Evt (fun k => w08_TreeFeeder.l2 k true (loadsV l0 l3 amps) (wantL l3 amps l3.length) (loadsV l0 l3 amps) l0.length c 1 (sumL l0 l3 amps c 0 l3.length) (sumL l0 l3 amps c 1 l3.length) (sumL l0 l3 amps c 2 l3.length)) true := by
      refine s2.step fun k _ => ?_
      simp only [w08_TreeFeeder.l2, hlen, z]
      rw [if_pos (by omega), if_neg (by omega), if_pos trivial, if_pos (by omega), if_neg (by omega), hb_wrap64 _ (by omega) (by omega)]; rfl
    have s0 : Evt (fun k => w08_TreeFeeder.l2 k true (loadsV l0 l3 amps) (wantL l3 amps l3.length) (loadsV l0 l3 amps) l0.length c 0 (sumL l0 l3 amps c 0 l3.length) (sumL l0 l3 amps c 1 l3.length) (sumL l0 l3 amps c 2 l3.length)) true := by
      refine s1.step fun k _ => ?_
      simp only [w08_TreeFeeder.l2, hlen, z]
      rw [if_pos (by omega), if_pos trivial, if_pos (by omega), if_neg (by omega), hb_wrap64 _ (by omega) (by omega)]; rfl
    refine s0.step fun k _ => ?_
    simp only [w08_TreeFeeder.l1, hlen, g]
    rw [if_pos (by omega), if_pos (by omega), if_pos (by omega)]
theorem tf_l0 (F : FineS l0 l1 l2 l3 l4) {amps : List Int} (ha : AmpsF l3.length amps) : ∀ (d i : Nat), i + d = l3.length →
    Evt (fun k => w08_TreeFeeder.l0 k true amps (loadsV l0 l3 amps) (wantL l3 amps i) l3 l3.length i) true := by
  have hn3 := F.n3
  have hl := ha.len
  intro d
  induction d with
  | zero =>
    intro i hi
    refine (tf_l1 F ha l0.length 0 (by omega)).step fun k _ => ?_
    simp only [w08_TreeFeeder.l0]
    rw [if_neg (by omega), loadsV_len, show i = l3.length by omega]; rfl
  | succ d ih =>
    intro i hi
    refine (ih (i + 1) (by omega)).step fun k _ => ?_
    have ph := F.ph (a := (i : Int)) (by omega) (by omega)
    have bt := bits_val _ ph.1 ph.2
    have a := ha.get i (by omega)
    have wi := want_bd F ha i (by omega)
    have wi1 := want_bd F ha (i + 1) (by omega)
    have q0 := bv_bd (rd_T42 l3 (i : Int)).f2 0
    have q1 := bv_bd (rd_T42 l3 (i : Int)).f2 1
    have q2 := bv_bd (rd_T42 l3 (i : Int)).f2 2
    have we : wantL l3 amps (i + 1) = wantL l3 amps i + rd amps i * (bv (rd_T42 l3 (i : Int)).f2 0 + bv (rd_T42 l3 (i : Int)).f2 1 + bv (rd_T42 l3 (i : Int)).f2 2) := rfl
    simp only [w08_TreeFeeder.l0, bt.1, bt.2.1, bt.2.2]
    rw [if_pos (by omega), if_pos (by omega), if_pos (by omega), if_pos (by omega), hb_wrap64 (bv _ 0 + bv _ 1) (by omega) (by omega), hb_wrap64 (bv _ 0 + bv _ 1 + bv _ 2) (by omega) (by omega)]
    rw [hb_wrap64 (rd amps i * _) (by omega) (by omega), ← we, hb_wrap64 _ (by omega) (by omega), hb_wrap64 _ (by omega) (by omega)]; rfl
end
theorem TreeFeeder : w08_TreeFeeder.Pure := by
  intro s l w wl
  obtain ⟨K1, hK1⟩ := head_ok
  obtain ⟨K2, hK2⟩ := usable_ok (hs_of w)
  cases hv : validB s.f0 s.f1 s.f2 s.f3 s.f4
  · refine ⟨K1 + K2, ?_⟩
    unfold w08_TreeFeeder.f
    rw [show w08_head.f (K1 + K2) = some true from hK1 _ (by omega), show w08_usable.f (K1 + K2) _ _ _ _ _ = _ from hK2 _ (by omega), hv]
    rfl
  · have sv := sv_ok w
    rw [hv] at sv
    have F := valid_fine hv
    have hn0 := F.n0
    have hn3 := F.n3
    obtain ⟨cs, ⟨K3, hK3⟩, hA⟩ := cur_ok (l0 := s.f0) (l1 := s.f1) (l2 := s.f2) (l3 := s.f3) (l4 := s.f4) l wl.2 (by omega)
    obtain ⟨K4, hK4⟩ := tf_l0 F hA s.f3.length 0 (by omega)
    refine ⟨K1 + K2 + K3 + K4 + 1, ?_⟩
    unfold w08_TreeFeeder.f
    rw [show w08_head.f (K1 + K2 + K3 + K4 + 1) = some true from hK1 _ (by omega), show w08_usable.f (K1 + K2 + K3 + K4 + 1) _ _ _ _ _ = _ from hK2 _ (by omega), hv,
      show w08_currents.f (K1 + K2 + K3 + K4 + 1) _ _ _ _ _ _ = _ from hK3 _ (by omega)]
    simp only [Option.bind_some, if_true, lds_ok sv F hA, loadsV_len]
    have e : ((s.f0.length : Int) == 0) = false := by rw [beq_eq_false_iff_ne]; omega
    rw [e]
    simp only [w08_TreeFeeder.j0, Bool.false_eq_true, if_false]
    exact hK4 _ (by omega)

end Go.Proofs.Ytpdmnineampimaa.Pure
