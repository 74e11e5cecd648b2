import Derived.Test.YtpdmnineampimaaProg
import Derived.Below
import Derived.Deep.Draws
import Derived.Deep.AppendLies
import Derived.Maps.AppendAt
import Derived.OwnWalk
import Derived.Laws.BytesArg
import Derived.Laws.MakeOwn
import Derived.Laws.OwnMore
import Derived.Deep.OwnRows
import Derived.Tactics
import Derived.Lib.ConvBytes
import Derived.Laws.Slices
import Derived.WalkKit
import Derived.KernelRfl
import Derived.RowKit3
import Derived.Deep.LoopGhost
import Derived.Deep.QuietTactic
import Derived.BigQuiet
import Derived.WideLaws
import Derived.Deep.DeepCutAuto
import Derived.Deep.CutBlock
import Derived.Deep.RegionHeld3
import Derived.Laws.Rows
import Derived.Lib.AppendStr
import Derived.ArgAppend
import Derived.Laws.IdiomCopy
import Derived.OrdersHeld
import Derived.Laws.BitsLemmas
import Derived.RowKit
import Derived.Lib.Hide
import Derived.LoopTactic
import Derived.RangeFuncNested
import Derived.RangeFuncBound
import Derived.RangeFuncCalls
import Derived.RangeFuncLeaves
import Derived.Shelf.Abstract
import Derived.Shelf.RegionOpen
import Derived.OwnWalkIn
import Derived.TacticsInMore
import Derived.LoopNIn
import Derived.LoopIn
import Derived.ProofKit
import Derived.OpenShut
import Derived.ChangeOld
import Derived.SizedLaws
import Derived.Maps.OwnSet
import Derived.Maps.Views
import Derived.Sort.BigQuietIn
import Derived.Test.YtpdmnineampimaaYw
set_option linter.unusedVariables false
set_option linter.unusedSimpArgs false
namespace Go.Proofs.Ytpdmnineampimaa.Q
open Go.RowKit Go.Proofs.YtpdmnineampimaaW.PrintWords Go.Proofs.YtpdmnineampimaaW.PrintLast Go.Proofs.YtpdmnineampimaaW.PrintMore
attribute [local go_sem] max2_int min2_int max_two min_two max_three min_three max_four min_four
def errW : Option Int → Value
  | none => .nilIface
  | some c => .iface 0 (.int .i64 c)
theorem errW_none : errW none = .nilIface := rfl
theorem errW_some (c : Int) : errW (some c) = .iface 0 (.int .i64 c) := rfl
theorem info3 : (Try.prog.info? 3).map (fun i => (i.zero, i.size, i.bytes)) = some (some (.int .i64 0), 1, 8) := by kernel_rfl
theorem info9 : (Try.prog.info? 9).map (fun i => (i.zero, i.size, i.bytes)) = some (some (.string ⟨#[]⟩), 1, 16) := by kernel_rfl
theorem info55 : (Try.prog.info? 55).map (fun i => (i.zero, i.size, i.bytes)) = some (some (.agg #[(.int .i64 0), (.int .i64 0), (.int .i64 0)]), 3, 24) := by kernel_rfl
structure S93 where
  f0 : Int
  f1 : ByteArray
  f2 : Int
  f3 : Int
  f4 : (List S93)
def z93 : S93 := ⟨(0 : Int), (⟨#[]⟩ : ByteArray), (0 : Int), (0 : Int), ([] : List S93)⟩
def F93 (d : Kd S93) : Kd S93 := Kd.iso (Kd.pair (Kd.int .i64) (Kd.pair Kd.string (Kd.pair (Kd.int .i64) (Kd.pair (Kd.int .i64) (Kd.slice 93 d))))) (fun x : S93 => (x.f0, x.f1, x.f2, x.f3, x.f4))
theorem mono93 : Kd.Mono F93 := Kd.mono_iso _ (Kd.mono_pair (Kd.mono_const _) (Kd.mono_pair (Kd.mono_const _) (Kd.mono_pair (Kd.mono_const _) (Kd.mono_pair (Kd.mono_const _) (Kd.mono_slice 93 Kd.mono_id)))))
theorem sub93 : Kd.Sub F93 [93] := Kd.sub_iso _ (Kd.sub_pair (Kd.sub_const _ (by decide)) (Kd.sub_pair (Kd.sub_const _ (by decide)) (Kd.sub_pair (Kd.sub_const _ (by decide)) (Kd.sub_pair (Kd.sub_const _ (by decide)) (Kd.sub_slice 93 (by decide) Kd.sub_id)))))
theorem sz93 : ∀ n, (Kd.upto F93 5 [93] n).sz = 5 := Kd.upto_sz (fun _ => rfl)
def k93 : Kd S93 := Kd.fix F93 5 [93] sz93 (Kd.upto_E sub93)
theorem k93_open {w : World} {x : S93} {cs : List Value} (h : k93.K w x cs) : ∃ A4 c4, cs = [.int .i64 x.f0, .string x.f1, .int .i64 x.f2, .int .i64 x.f3, .slice A4 x.f4.length c4] ∧ x.f4.length ≤ c4 ∧ k93.C w A4 x.f4.length x.f4 := by
  obtain ⟨n, h⟩ := h
  cases n with
  | zero => exact h.elim
  | succ n =>
    obtain ⟨_, _, rfl, rfl, ⟨_, _, rfl, rfl, ⟨_, _, rfl, rfl, ⟨_, _, rfl, rfl, ⟨A4, c4, rfl, l4, g4⟩⟩⟩⟩⟩ := h
    exact ⟨A4, c4, rfl, l4, Kd.fix_C g4⟩
theorem k93_mk (w : World) (x : S93) {A4 : Option Addr} {c4 : Nat} (l4 : x.f4.length ≤ c4) (g4 : k93.C w A4 x.f4.length x.f4) : k93.K w x [.int .i64 x.f0, .string x.f1, .int .i64 x.f2, .int .i64 x.f3, .slice A4 x.f4.length c4] := by
  obtain ⟨n4, q4⟩ := Kd.fix_C_back mono93 g4
  have r4 := Kd.upto_C_le mono93 sz93 (show n4 ≤ n4 by omega) q4
  exact ⟨n4 + 1, ⟨[.int .i64 x.f0], [.string x.f1, .int .i64 x.f2, .int .i64 x.f3, .slice A4 x.f4.length c4], rfl, rfl, ⟨[.string x.f1], [.int .i64 x.f2, .int .i64 x.f3, .slice A4 x.f4.length c4], rfl, rfl, ⟨[.int .i64 x.f2], [.int .i64 x.f3, .slice A4 x.f4.length c4], rfl, rfl, ⟨[.int .i64 x.f3], [.slice A4 x.f4.length c4], rfl, rfl, ⟨A4, c4, rfl, l4, r4⟩⟩⟩⟩⟩⟩
def rd_T93 (xs : List S93) (i : Int) : S93 := xs.getD i.toNat z93
theorem at_T93 {w : World} {A : Option Addr} {n : Nat} {xs : List S93} (h : Kd.C k93 w A n xs) (i : Int) (h0 : 0 ≤ i) (h1 : i < n) : ∃ ad A4 c4, A = some ad ∧ w.cell? (ad.add (i.toNat * 5)) = some (.int .i64 (rd_T93 xs i).f0) ∧ w.cell? ⟨(ad.add (i.toNat * 5)).block, (ad.add (i.toNat * 5)).off + 1, none⟩ = some (.string (rd_T93 xs i).f1) ∧ w.cell? ⟨(ad.add (i.toNat * 5)).block, (ad.add (i.toNat * 5)).off + 2, none⟩ = some (.int .i64 (rd_T93 xs i).f2) ∧ w.cell? ⟨(ad.add (i.toNat * 5)).block, (ad.add (i.toNat * 5)).off + 3, none⟩ = some (.int .i64 (rd_T93 xs i).f3) ∧ w.cell? ⟨(ad.add (i.toNat * 5)).block, (ad.add (i.toNat * 5)).off + 4, none⟩ = some (.slice A4 (rd_T93 xs i).f4.length c4) ∧ (rd_T93 xs i).f4.length ≤ c4 ∧ k93.C w A4 (rd_T93 xs i).f4.length (rd_T93 xs i).f4 := by
  obtain ⟨ad, c, e, _, hK, hc0⟩ := Kd.C_get h z93 i h0 h1
  have hc : ∀ j u, c[j]? = some u → w.cell? (ad.add (i.toNat * 5 + j)) = some u := hc0
  obtain ⟨A4, c4, rfl, l4, g4⟩ := k93_open hK
  exact ⟨ad, A4, c4, e, hc 0 _ rfl, by rw [← add_field _ _ 1 (by omega)]; exact hc 1 _ rfl, by rw [← add_field _ _ 2 (by omega)]; exact hc 2 _ rfl, by rw [← add_field _ _ 3 (by omega)]; exact hc 3 _ rfl, by rw [← add_field _ _ 4 (by omega)]; exact hc 4 _ rfl, l4, g4⟩
structure S44 where
  f0 : Int
  f1 : Int
def z44 : S44 := ⟨(0 : Int), (0 : Int)⟩
def k44 : Kd S44 := Kd.iso (Kd.pair (Kd.int .i64) (Kd.int .i64)) (fun x : S44 => (x.f0, x.f1))
theorem k44_open {w : World} {x : S44} {cs : List Value} (h : k44.K w x cs) : cs = [.int .i64 x.f0, .int .i64 x.f1] := by
  obtain ⟨_, _, rfl, rfl, rfl⟩ := h
  exact rfl
theorem k44_mk (w : World) (x : S44)  : k44.K w x [.int .i64 x.f0, .int .i64 x.f1] := ⟨[.int .i64 x.f0], [.int .i64 x.f1], rfl, rfl, rfl⟩
theorem k44_mkM (w : World) (base : Nat) (ok : Nat → Prop) (x : S44)  : k44.M w base ok x [.int .i64 x.f0, .int .i64 x.f1] := ⟨[.int .i64 x.f0], [.int .i64 x.f1], rfl, rfl, rfl⟩
structure S46 where
  f0 : Int
  f1 : Int
  f2 : Int
  f3 : Int
  f4 : Int
def z46 : S46 := ⟨(0 : Int), (0 : Int), (0 : Int), (0 : Int), (0 : Int)⟩
def k46 : Kd S46 := Kd.iso (Kd.pair (Kd.int .i64) (Kd.pair (Kd.int .i64) (Kd.pair (Kd.int .i64) (Kd.pair (Kd.int .i64) (Kd.int .i64))))) (fun x : S46 => (x.f0, x.f1, x.f2, x.f3, x.f4))
theorem k46_open {w : World} {x : S46} {cs : List Value} (h : k46.K w x cs) : cs = [.int .i64 x.f0, .int .i64 x.f1, .int .i64 x.f2, .int .i64 x.f3, .int .i64 x.f4] := by
  obtain ⟨_, _, rfl, rfl, ⟨_, _, rfl, rfl, ⟨_, _, rfl, rfl, ⟨_, _, rfl, rfl, rfl⟩⟩⟩⟩ := h
  exact rfl
theorem k46_mk (w : World) (x : S46)  : k46.K w x [.int .i64 x.f0, .int .i64 x.f1, .int .i64 x.f2, .int .i64 x.f3, .int .i64 x.f4] := ⟨[.int .i64 x.f0], [.int .i64 x.f1, .int .i64 x.f2, .int .i64 x.f3, .int .i64 x.f4], rfl, rfl, ⟨[.int .i64 x.f1], [.int .i64 x.f2, .int .i64 x.f3, .int .i64 x.f4], rfl, rfl, ⟨[.int .i64 x.f2], [.int .i64 x.f3, .int .i64 x.f4], rfl, rfl, ⟨[.int .i64 x.f3], [.int .i64 x.f4], rfl, rfl, rfl⟩⟩⟩⟩
theorem k46_mkM (w : World) (base : Nat) (ok : Nat → Prop) (x : S46)  : k46.M w base ok x [.int .i64 x.f0, .int .i64 x.f1, .int .i64 x.f2, .int .i64 x.f3, .int .i64 x.f4] := ⟨[.int .i64 x.f0], [.int .i64 x.f1, .int .i64 x.f2, .int .i64 x.f3, .int .i64 x.f4], rfl, rfl, ⟨[.int .i64 x.f1], [.int .i64 x.f2, .int .i64 x.f3, .int .i64 x.f4], rfl, rfl, ⟨[.int .i64 x.f2], [.int .i64 x.f3, .int .i64 x.f4], rfl, rfl, ⟨[.int .i64 x.f3], [.int .i64 x.f4], rfl, rfl, rfl⟩⟩⟩⟩
structure S48 where
  f0 : ByteArray
  f1 : Int
  f2 : Int
  f3 : Int
  f4 : S44
  f5 : S46
def z48 : S48 := ⟨(⟨#[]⟩ : ByteArray), (0 : Int), (0 : Int), (0 : Int), z44, z46⟩
def k48 : Kd S48 := Kd.iso (Kd.pair Kd.string (Kd.pair (Kd.int .i64) (Kd.pair (Kd.int .i64) (Kd.pair (Kd.int .i64) (Kd.pair k44 k46))))) (fun x : S48 => (x.f0, x.f1, x.f2, x.f3, x.f4, x.f5))
theorem k48_open {w : World} {x : S48} {cs : List Value} (h : k48.K w x cs) : cs = [.string x.f0, .int .i64 x.f1, .int .i64 x.f2, .int .i64 x.f3, .int .i64 x.f4.f0, .int .i64 x.f4.f1, .int .i64 x.f5.f0, .int .i64 x.f5.f1, .int .i64 x.f5.f2, .int .i64 x.f5.f3, .int .i64 x.f5.f4] := by
  obtain ⟨_, _, rfl, rfl, ⟨_, _, rfl, rfl, ⟨_, _, rfl, rfl, ⟨_, _, rfl, rfl, ⟨_, _, rfl, s4, s6⟩⟩⟩⟩⟩ := h
  obtain rfl := k44_open s4
  obtain rfl := k46_open s6
  exact rfl
theorem k48_mk (w : World) (x : S48)  : k48.K w x [.string x.f0, .int .i64 x.f1, .int .i64 x.f2, .int .i64 x.f3, .int .i64 x.f4.f0, .int .i64 x.f4.f1, .int .i64 x.f5.f0, .int .i64 x.f5.f1, .int .i64 x.f5.f2, .int .i64 x.f5.f3, .int .i64 x.f5.f4] := ⟨[.string x.f0], [.int .i64 x.f1, .int .i64 x.f2, .int .i64 x.f3, .int .i64 x.f4.f0, .int .i64 x.f4.f1, .int .i64 x.f5.f0, .int .i64 x.f5.f1, .int .i64 x.f5.f2, .int .i64 x.f5.f3, .int .i64 x.f5.f4], rfl, rfl, ⟨[.int .i64 x.f1], [.int .i64 x.f2, .int .i64 x.f3, .int .i64 x.f4.f0, .int .i64 x.f4.f1, .int .i64 x.f5.f0, .int .i64 x.f5.f1, .int .i64 x.f5.f2, .int .i64 x.f5.f3, .int .i64 x.f5.f4], rfl, rfl, ⟨[.int .i64 x.f2], [.int .i64 x.f3, .int .i64 x.f4.f0, .int .i64 x.f4.f1, .int .i64 x.f5.f0, .int .i64 x.f5.f1, .int .i64 x.f5.f2, .int .i64 x.f5.f3, .int .i64 x.f5.f4], rfl, rfl, ⟨[.int .i64 x.f3], [.int .i64 x.f4.f0, .int .i64 x.f4.f1, .int .i64 x.f5.f0, .int .i64 x.f5.f1, .int .i64 x.f5.f2, .int .i64 x.f5.f3, .int .i64 x.f5.f4], rfl, rfl, ⟨[.int .i64 x.f4.f0, .int .i64 x.f4.f1], [.int .i64 x.f5.f0, .int .i64 x.f5.f1, .int .i64 x.f5.f2, .int .i64 x.f5.f3, .int .i64 x.f5.f4], rfl, (k44_mk w x.f4 ), (k46_mk w x.f5 )⟩⟩⟩⟩⟩
theorem k48_mkM (w : World) (base : Nat) (ok : Nat → Prop) (x : S48)  : k48.M w base ok x [.string x.f0, .int .i64 x.f1, .int .i64 x.f2, .int .i64 x.f3, .int .i64 x.f4.f0, .int .i64 x.f4.f1, .int .i64 x.f5.f0, .int .i64 x.f5.f1, .int .i64 x.f5.f2, .int .i64 x.f5.f3, .int .i64 x.f5.f4] := ⟨[.string x.f0], [.int .i64 x.f1, .int .i64 x.f2, .int .i64 x.f3, .int .i64 x.f4.f0, .int .i64 x.f4.f1, .int .i64 x.f5.f0, .int .i64 x.f5.f1, .int .i64 x.f5.f2, .int .i64 x.f5.f3, .int .i64 x.f5.f4], rfl, rfl, ⟨[.int .i64 x.f1], [.int .i64 x.f2, .int .i64 x.f3, .int .i64 x.f4.f0, .int .i64 x.f4.f1, .int .i64 x.f5.f0, .int .i64 x.f5.f1, .int .i64 x.f5.f2, .int .i64 x.f5.f3, .int .i64 x.f5.f4], rfl, rfl, ⟨[.int .i64 x.f2], [.int .i64 x.f3, .int .i64 x.f4.f0, .int .i64 x.f4.f1, .int .i64 x.f5.f0, .int .i64 x.f5.f1, .int .i64 x.f5.f2, .int .i64 x.f5.f3, .int .i64 x.f5.f4], rfl, rfl, ⟨[.int .i64 x.f3], [.int .i64 x.f4.f0, .int .i64 x.f4.f1, .int .i64 x.f5.f0, .int .i64 x.f5.f1, .int .i64 x.f5.f2, .int .i64 x.f5.f3, .int .i64 x.f5.f4], rfl, rfl, ⟨[.int .i64 x.f4.f0, .int .i64 x.f4.f1], [.int .i64 x.f5.f0, .int .i64 x.f5.f1, .int .i64 x.f5.f2, .int .i64 x.f5.f3, .int .i64 x.f5.f4], rfl, (k44_mkM w base ok x.f4 ), (k46_mkM w base ok x.f5 )⟩⟩⟩⟩⟩
def rd_T48 (xs : List S48) (i : Int) : S48 := xs.getD i.toNat z48
theorem at_T48 {w : World} {A : Option Addr} {n : Nat} {xs : List S48} (h : Kd.C k48 w A n xs) (i : Int) (h0 : 0 ≤ i) (h1 : i < n) : ∃ ad , A = some ad ∧ w.cell? (ad.add (i.toNat * 11)) = some (.string (rd_T48 xs i).f0) ∧ w.cell? ⟨(ad.add (i.toNat * 11)).block, (ad.add (i.toNat * 11)).off + 1, none⟩ = some (.int .i64 (rd_T48 xs i).f1) ∧ w.cell? ⟨(ad.add (i.toNat * 11)).block, (ad.add (i.toNat * 11)).off + 2, none⟩ = some (.int .i64 (rd_T48 xs i).f2) ∧ w.cell? ⟨(ad.add (i.toNat * 11)).block, (ad.add (i.toNat * 11)).off + 3, none⟩ = some (.int .i64 (rd_T48 xs i).f3) ∧ w.cell? ⟨(ad.add (i.toNat * 11)).block, (ad.add (i.toNat * 11)).off + 4, none⟩ = some (.int .i64 (rd_T48 xs i).f4.f0) ∧ w.cell? ⟨(ad.add (i.toNat * 11)).block, (ad.add (i.toNat * 11)).off + 5, none⟩ = some (.int .i64 (rd_T48 xs i).f4.f1) ∧ w.cell? ⟨(ad.add (i.toNat * 11)).block, (ad.add (i.toNat * 11)).off + 6, none⟩ = some (.int .i64 (rd_T48 xs i).f5.f0) ∧ w.cell? ⟨(ad.add (i.toNat * 11)).block, (ad.add (i.toNat * 11)).off + 7, none⟩ = some (.int .i64 (rd_T48 xs i).f5.f1) ∧ w.cell? ⟨(ad.add (i.toNat * 11)).block, (ad.add (i.toNat * 11)).off + 8, none⟩ = some (.int .i64 (rd_T48 xs i).f5.f2) ∧ w.cell? ⟨(ad.add (i.toNat * 11)).block, (ad.add (i.toNat * 11)).off + 9, none⟩ = some (.int .i64 (rd_T48 xs i).f5.f3) ∧ w.cell? ⟨(ad.add (i.toNat * 11)).block, (ad.add (i.toNat * 11)).off + 10, none⟩ = some (.int .i64 (rd_T48 xs i).f5.f4) := by
  obtain ⟨ad, c, e, _, hK, hc0⟩ := Kd.C_get h z48 i h0 h1
  have hc : ∀ j u, c[j]? = some u → w.cell? (ad.add (i.toNat * 11 + j)) = some u := hc0
  obtain rfl := k48_open hK
  exact ⟨ad, e, hc 0 _ rfl, by rw [← add_field _ _ 1 (by omega)]; exact hc 1 _ rfl, by rw [← add_field _ _ 2 (by omega)]; exact hc 2 _ rfl, by rw [← add_field _ _ 3 (by omega)]; exact hc 3 _ rfl, by rw [← add_field _ _ 4 (by omega)]; exact hc 4 _ rfl, by rw [← add_field _ _ 5 (by omega)]; exact hc 5 _ rfl, by rw [← add_field _ _ 6 (by omega)]; exact hc 6 _ rfl, by rw [← add_field _ _ 7 (by omega)]; exact hc 7 _ rfl, by rw [← add_field _ _ 8 (by omega)]; exact hc 8 _ rfl, by rw [← add_field _ _ 9 (by omega)]; exact hc 9 _ rfl, by rw [← add_field _ _ 10 (by omega)]; exact hc 10 _ rfl⟩
structure S62 where
  f0 : ByteArray
def z62 : S62 := ⟨(⟨#[]⟩ : ByteArray)⟩
def k62 : Kd S62 := Kd.iso Kd.string (fun x : S62 => x.f0)
theorem k62_open {w : World} {x : S62} {cs : List Value} (h : k62.K w x cs) : cs = [.string x.f0] := by
  obtain rfl := h
  exact rfl
theorem k62_mk (w : World) (x : S62)  : k62.K w x [.string x.f0] := rfl
theorem k62_mkM (w : World) (base : Nat) (ok : Nat → Prop) (x : S62)  : k62.M w base ok x [.string x.f0] := rfl
def rd_T62 (xs : List S62) (i : Int) : S62 := xs.getD i.toNat z62
theorem at_T62 {w : World} {A : Option Addr} {n : Nat} {xs : List S62} (h : Kd.C k62 w A n xs) (i : Int) (h0 : 0 ≤ i) (h1 : i < n) : ∃ ad , A = some ad ∧ w.cell? (ad.add i.toNat) = some (.string (rd_T62 xs i).f0) := by
  obtain ⟨ad, c, e, _, hK, hc0⟩ := Kd.C_get h z62 i h0 h1
  have hc : ∀ j u, c[j]? = some u → w.cell? (ad.add (i.toNat * 1 + j)) = some u := hc0
  obtain rfl := k62_open hK
  exact ⟨ad, e, by have hq := hc 0 _ rfl; rwa [Nat.mul_one, Nat.add_zero] at hq⟩
structure S84 where
  f0 : ByteArray
  f1 : Int
  f2 : Int
  f3 : Int
def z84 : S84 := ⟨(⟨#[]⟩ : ByteArray), (0 : Int), (0 : Int), (0 : Int)⟩
def k84 : Kd S84 := Kd.iso (Kd.pair Kd.string (Kd.pair (Kd.int .i64) (Kd.pair (Kd.int .i64) (Kd.int .i64)))) (fun x : S84 => (x.f0, x.f1, x.f2, x.f3))
theorem k84_open {w : World} {x : S84} {cs : List Value} (h : k84.K w x cs) : cs = [.string x.f0, .int .i64 x.f1, .int .i64 x.f2, .int .i64 x.f3] := by
  obtain ⟨_, _, rfl, rfl, ⟨_, _, rfl, rfl, ⟨_, _, rfl, rfl, rfl⟩⟩⟩ := h
  exact rfl
theorem k84_mk (w : World) (x : S84)  : k84.K w x [.string x.f0, .int .i64 x.f1, .int .i64 x.f2, .int .i64 x.f3] := ⟨[.string x.f0], [.int .i64 x.f1, .int .i64 x.f2, .int .i64 x.f3], rfl, rfl, ⟨[.int .i64 x.f1], [.int .i64 x.f2, .int .i64 x.f3], rfl, rfl, ⟨[.int .i64 x.f2], [.int .i64 x.f3], rfl, rfl, rfl⟩⟩⟩
def rd_T84 (xs : List S84) (i : Int) : S84 := xs.getD i.toNat z84
theorem at_T84 {w : World} {A : Option Addr} {n : Nat} {xs : List S84} (h : Kd.C k84 w A n xs) (i : Int) (h0 : 0 ≤ i) (h1 : i < n) : ∃ ad , A = some ad ∧ w.cell? (ad.add (i.toNat * 4)) = some (.string (rd_T84 xs i).f0) ∧ w.cell? ⟨(ad.add (i.toNat * 4)).block, (ad.add (i.toNat * 4)).off + 1, none⟩ = some (.int .i64 (rd_T84 xs i).f1) ∧ w.cell? ⟨(ad.add (i.toNat * 4)).block, (ad.add (i.toNat * 4)).off + 2, none⟩ = some (.int .i64 (rd_T84 xs i).f2) ∧ w.cell? ⟨(ad.add (i.toNat * 4)).block, (ad.add (i.toNat * 4)).off + 3, none⟩ = some (.int .i64 (rd_T84 xs i).f3) := by
  obtain ⟨ad, c, e, _, hK, hc0⟩ := Kd.C_get h z84 i h0 h1
  have hc : ∀ j u, c[j]? = some u → w.cell? (ad.add (i.toNat * 4 + j)) = some u := hc0
  obtain rfl := k84_open hK
  exact ⟨ad, e, hc 0 _ rfl, by rw [← add_field _ _ 1 (by omega)]; exact hc 1 _ rfl, by rw [← add_field _ _ 2 (by omega)]; exact hc 2 _ rfl, by rw [← add_field _ _ 3 (by omega)]; exact hc 3 _ rfl⟩
structure S42 where
  f0 : ByteArray
  f1 : Int
  f2 : Int
  f3 : Int
  f4 : Int
  f5 : Int
  f6 : Int
  f7 : Int
def z42 : S42 := ⟨(⟨#[]⟩ : ByteArray), (0 : Int), (0 : Int), (0 : Int), (0 : Int), (0 : Int), (0 : Int), (0 : Int)⟩
def k42 : Kd S42 := Kd.iso (Kd.pair Kd.string (Kd.pair (Kd.int .i64) (Kd.pair (Kd.int .i64) (Kd.pair (Kd.int .i64) (Kd.pair (Kd.int .i64) (Kd.pair (Kd.int .i64) (Kd.pair (Kd.int .i64) (Kd.int .i64)))))))) (fun x : S42 => (x.f0, x.f1, x.f2, x.f3, x.f4, x.f5, x.f6, x.f7))
theorem k42_open {w : World} {x : S42} {cs : List Value} (h : k42.K w x cs) : cs = [.string x.f0, .int .i64 x.f1, .int .i64 x.f2, .int .i64 x.f3, .int .i64 x.f4, .int .i64 x.f5, .int .i64 x.f6, .int .i64 x.f7] := by
  obtain ⟨_, _, rfl, rfl, ⟨_, _, rfl, rfl, ⟨_, _, rfl, rfl, ⟨_, _, rfl, rfl, ⟨_, _, rfl, rfl, ⟨_, _, rfl, rfl, ⟨_, _, rfl, rfl, rfl⟩⟩⟩⟩⟩⟩⟩ := h
  exact rfl
theorem k42_mk (w : World) (x : S42)  : k42.K w x [.string x.f0, .int .i64 x.f1, .int .i64 x.f2, .int .i64 x.f3, .int .i64 x.f4, .int .i64 x.f5, .int .i64 x.f6, .int .i64 x.f7] := ⟨[.string x.f0], [.int .i64 x.f1, .int .i64 x.f2, .int .i64 x.f3, .int .i64 x.f4, .int .i64 x.f5, .int .i64 x.f6, .int .i64 x.f7], rfl, rfl, ⟨[.int .i64 x.f1], [.int .i64 x.f2, .int .i64 x.f3, .int .i64 x.f4, .int .i64 x.f5, .int .i64 x.f6, .int .i64 x.f7], rfl, rfl, ⟨[.int .i64 x.f2], [.int .i64 x.f3, .int .i64 x.f4, .int .i64 x.f5, .int .i64 x.f6, .int .i64 x.f7], rfl, rfl, ⟨[.int .i64 x.f3], [.int .i64 x.f4, .int .i64 x.f5, .int .i64 x.f6, .int .i64 x.f7], rfl, rfl, ⟨[.int .i64 x.f4], [.int .i64 x.f5, .int .i64 x.f6, .int .i64 x.f7], rfl, rfl, ⟨[.int .i64 x.f5], [.int .i64 x.f6, .int .i64 x.f7], rfl, rfl, ⟨[.int .i64 x.f6], [.int .i64 x.f7], rfl, rfl, rfl⟩⟩⟩⟩⟩⟩⟩
theorem k42_mkM (w : World) (base : Nat) (ok : Nat → Prop) (x : S42)  : k42.M w base ok x [.string x.f0, .int .i64 x.f1, .int .i64 x.f2, .int .i64 x.f3, .int .i64 x.f4, .int .i64 x.f5, .int .i64 x.f6, .int .i64 x.f7] := ⟨[.string x.f0], [.int .i64 x.f1, .int .i64 x.f2, .int .i64 x.f3, .int .i64 x.f4, .int .i64 x.f5, .int .i64 x.f6, .int .i64 x.f7], rfl, rfl, ⟨[.int .i64 x.f1], [.int .i64 x.f2, .int .i64 x.f3, .int .i64 x.f4, .int .i64 x.f5, .int .i64 x.f6, .int .i64 x.f7], rfl, rfl, ⟨[.int .i64 x.f2], [.int .i64 x.f3, .int .i64 x.f4, .int .i64 x.f5, .int .i64 x.f6, .int .i64 x.f7], rfl, rfl, ⟨[.int .i64 x.f3], [.int .i64 x.f4, .int .i64 x.f5, .int .i64 x.f6, .int .i64 x.f7], rfl, rfl, ⟨[.int .i64 x.f4], [.int .i64 x.f5, .int .i64 x.f6, .int .i64 x.f7], rfl, rfl, ⟨[.int .i64 x.f5], [.int .i64 x.f6, .int .i64 x.f7], rfl, rfl, ⟨[.int .i64 x.f6], [.int .i64 x.f7], rfl, rfl, rfl⟩⟩⟩⟩⟩⟩⟩
def rd_T42 (xs : List S42) (i : Int) : S42 := xs.getD i.toNat z42
theorem at_T42 {w : World} {A : Option Addr} {n : Nat} {xs : List S42} (h : Kd.C k42 w A n xs) (i : Int) (h0 : 0 ≤ i) (h1 : i < n) : ∃ ad , A = some ad ∧ w.cell? (ad.add (i.toNat * 8)) = some (.string (rd_T42 xs i).f0) ∧ w.cell? ⟨(ad.add (i.toNat * 8)).block, (ad.add (i.toNat * 8)).off + 1, none⟩ = some (.int .i64 (rd_T42 xs i).f1) ∧ w.cell? ⟨(ad.add (i.toNat * 8)).block, (ad.add (i.toNat * 8)).off + 2, none⟩ = some (.int .i64 (rd_T42 xs i).f2) ∧ w.cell? ⟨(ad.add (i.toNat * 8)).block, (ad.add (i.toNat * 8)).off + 3, none⟩ = some (.int .i64 (rd_T42 xs i).f3) ∧ w.cell? ⟨(ad.add (i.toNat * 8)).block, (ad.add (i.toNat * 8)).off + 4, none⟩ = some (.int .i64 (rd_T42 xs i).f4) ∧ w.cell? ⟨(ad.add (i.toNat * 8)).block, (ad.add (i.toNat * 8)).off + 5, none⟩ = some (.int .i64 (rd_T42 xs i).f5) ∧ w.cell? ⟨(ad.add (i.toNat * 8)).block, (ad.add (i.toNat * 8)).off + 6, none⟩ = some (.int .i64 (rd_T42 xs i).f6) ∧ w.cell? ⟨(ad.add (i.toNat * 8)).block, (ad.add (i.toNat * 8)).off + 7, none⟩ = some (.int .i64 (rd_T42 xs i).f7) := by
  obtain ⟨ad, c, e, _, hK, hc0⟩ := Kd.C_get h z42 i h0 h1
  have hc : ∀ j u, c[j]? = some u → w.cell? (ad.add (i.toNat * 8 + j)) = some u := hc0
  obtain rfl := k42_open hK
  exact ⟨ad, e, hc 0 _ rfl, by rw [← add_field _ _ 1 (by omega)]; exact hc 1 _ rfl, by rw [← add_field _ _ 2 (by omega)]; exact hc 2 _ rfl, by rw [← add_field _ _ 3 (by omega)]; exact hc 3 _ rfl, by rw [← add_field _ _ 4 (by omega)]; exact hc 4 _ rfl, by rw [← add_field _ _ 5 (by omega)]; exact hc 5 _ rfl, by rw [← add_field _ _ 6 (by omega)]; exact hc 6 _ rfl, by rw [← add_field _ _ 7 (by omega)]; exact hc 7 _ rfl⟩
structure S87 where
  f0 : ByteArray
  f1 : Int
def z87 : S87 := ⟨(⟨#[]⟩ : ByteArray), (0 : Int)⟩
def k87 : Kd S87 := Kd.iso (Kd.pair Kd.string (Kd.int .i64)) (fun x : S87 => (x.f0, x.f1))
theorem k87_open {w : World} {x : S87} {cs : List Value} (h : k87.K w x cs) : cs = [.string x.f0, .int .i64 x.f1] := by
  obtain ⟨_, _, rfl, rfl, rfl⟩ := h
  exact rfl
theorem k87_mk (w : World) (x : S87)  : k87.K w x [.string x.f0, .int .i64 x.f1] := ⟨[.string x.f0], [.int .i64 x.f1], rfl, rfl, rfl⟩
def rd_T87 (xs : List S87) (i : Int) : S87 := xs.getD i.toNat z87
theorem at_T87 {w : World} {A : Option Addr} {n : Nat} {xs : List S87} (h : Kd.C k87 w A n xs) (i : Int) (h0 : 0 ≤ i) (h1 : i < n) : ∃ ad , A = some ad ∧ w.cell? (ad.add (i.toNat * 2)) = some (.string (rd_T87 xs i).f0) ∧ w.cell? ⟨(ad.add (i.toNat * 2)).block, (ad.add (i.toNat * 2)).off + 1, none⟩ = some (.int .i64 (rd_T87 xs i).f1) := by
  obtain ⟨ad, c, e, _, hK, hc0⟩ := Kd.C_get h z87 i h0 h1
  have hc : ∀ j u, c[j]? = some u → w.cell? (ad.add (i.toNat * 2 + j)) = some u := hc0
  obtain rfl := k87_open hK
  exact ⟨ad, e, hc 0 _ rfl, by rw [← add_field _ _ 1 (by omega)]; exact hc 1 _ rfl⟩
structure S28 where
  f0 : (List S48)
  f1 : (List S62)
  f2 : (List S84)
  f3 : (List S42)
  f4 : (List S87)
def k28 : Kd S28 := Kd.iso (Kd.pair (Kd.slice 48 k48) (Kd.pair (Kd.slice 62 k62) (Kd.pair (Kd.slice 84 k84) (Kd.pair (Kd.slice 42 k42) (Kd.slice 87 k87))))) (fun x : S28 => (x.f0, x.f1, x.f2, x.f3, x.f4))
theorem k28_open {w : World} {x : S28} {cs : List Value} (h : k28.K w x cs) : ∃ A0 c0 A1 c1 A2 c2 A3 c3 A4 c4, cs = [.slice A0 x.f0.length c0, .slice A1 x.f1.length c1, .slice A2 x.f2.length c2, .slice A3 x.f3.length c3, .slice A4 x.f4.length c4] ∧ x.f0.length ≤ c0 ∧ k48.C w A0 x.f0.length x.f0 ∧ x.f1.length ≤ c1 ∧ k62.C w A1 x.f1.length x.f1 ∧ x.f2.length ≤ c2 ∧ k84.C w A2 x.f2.length x.f2 ∧ x.f3.length ≤ c3 ∧ k42.C w A3 x.f3.length x.f3 ∧ x.f4.length ≤ c4 ∧ k87.C w A4 x.f4.length x.f4 := by
  obtain ⟨_, _, rfl, ⟨A0, c0, rfl, l0, g0⟩, ⟨_, _, rfl, ⟨A1, c1, rfl, l1, g1⟩, ⟨_, _, rfl, ⟨A2, c2, rfl, l2, g2⟩, ⟨_, _, rfl, ⟨A3, c3, rfl, l3, g3⟩, ⟨A4, c4, rfl, l4, g4⟩⟩⟩⟩⟩ := h
  exact ⟨A0, c0, A1, c1, A2, c2, A3, c3, A4, c4, rfl, l0, g0, l1, g1, l2, g2, l3, g3, l4, g4⟩
theorem k28_mk (w : World) (x : S28) {A0 : Option Addr} {c0 : Nat} (l0 : x.f0.length ≤ c0) (g0 : k48.C w A0 x.f0.length x.f0) {A1 : Option Addr} {c1 : Nat} (l1 : x.f1.length ≤ c1) (g1 : k62.C w A1 x.f1.length x.f1) {A2 : Option Addr} {c2 : Nat} (l2 : x.f2.length ≤ c2) (g2 : k84.C w A2 x.f2.length x.f2) {A3 : Option Addr} {c3 : Nat} (l3 : x.f3.length ≤ c3) (g3 : k42.C w A3 x.f3.length x.f3) {A4 : Option Addr} {c4 : Nat} (l4 : x.f4.length ≤ c4) (g4 : k87.C w A4 x.f4.length x.f4) : k28.K w x [.slice A0 x.f0.length c0, .slice A1 x.f1.length c1, .slice A2 x.f2.length c2, .slice A3 x.f3.length c3, .slice A4 x.f4.length c4] := ⟨[.slice A0 x.f0.length c0], [.slice A1 x.f1.length c1, .slice A2 x.f2.length c2, .slice A3 x.f3.length c3, .slice A4 x.f4.length c4], rfl, ⟨A0, c0, rfl, l0, g0⟩, ⟨[.slice A1 x.f1.length c1], [.slice A2 x.f2.length c2, .slice A3 x.f3.length c3, .slice A4 x.f4.length c4], rfl, ⟨A1, c1, rfl, l1, g1⟩, ⟨[.slice A2 x.f2.length c2], [.slice A3 x.f3.length c3, .slice A4 x.f4.length c4], rfl, ⟨A2, c2, rfl, l2, g2⟩, ⟨[.slice A3 x.f3.length c3], [.slice A4 x.f4.length c4], rfl, ⟨A3, c3, rfl, l3, g3⟩, ⟨A4, c4, rfl, l4, g4⟩⟩⟩⟩⟩
structure S55 where
  f0 : Int
  f1 : Int
  f2 : Int
def z55 : S55 := ⟨(0 : Int), (0 : Int), (0 : Int)⟩
def k55 : Kd S55 := Kd.iso (Kd.pair (Kd.int .i64) (Kd.pair (Kd.int .i64) (Kd.int .i64))) (fun x : S55 => (x.f0, x.f1, x.f2))
theorem k55_open {w : World} {x : S55} {cs : List Value} (h : k55.K w x cs) : cs = [.int .i64 x.f0, .int .i64 x.f1, .int .i64 x.f2] := by
  obtain ⟨_, _, rfl, rfl, ⟨_, _, rfl, rfl, rfl⟩⟩ := h
  exact rfl
theorem k55_openM {w : World} {base : Nat} {ok : Nat → Prop} {x : S55} {cs : List Value} (h : k55.M w base ok x cs) : cs = [.int .i64 x.f0, .int .i64 x.f1, .int .i64 x.f2] := by
  obtain ⟨_, _, rfl, rfl, ⟨_, _, rfl, rfl, rfl⟩⟩ := h
  exact rfl
theorem k55_mkM (w : World) (base : Nat) (ok : Nat → Prop) (x : S55)  : k55.M w base ok x [.int .i64 x.f0, .int .i64 x.f1, .int .i64 x.f2] := ⟨[.int .i64 x.f0], [.int .i64 x.f1, .int .i64 x.f2], rfl, rfl, ⟨[.int .i64 x.f1], [.int .i64 x.f2], rfl, rfl, rfl⟩⟩
def rd_T55 (xs : List S55) (i : Int) : S55 := xs.getD i.toNat z55
theorem at_T55 {w : World} {A : Option Addr} {n : Nat} {xs : List S55} (h : Kd.C k55 w A n xs) (i : Int) (h0 : 0 ≤ i) (h1 : i < n) : ∃ ad , A = some ad ∧ w.cell? (ad.add (i.toNat * 3)) = some (.int .i64 (rd_T55 xs i).f0) ∧ w.cell? ⟨(ad.add (i.toNat * 3)).block, (ad.add (i.toNat * 3)).off + 1, none⟩ = some (.int .i64 (rd_T55 xs i).f1) ∧ w.cell? ⟨(ad.add (i.toNat * 3)).block, (ad.add (i.toNat * 3)).off + 2, none⟩ = some (.int .i64 (rd_T55 xs i).f2) := by
  obtain ⟨ad, c, e, _, hK, hc0⟩ := Kd.C_get h z55 i h0 h1
  have hc : ∀ j u, c[j]? = some u → w.cell? (ad.add (i.toNat * 3 + j)) = some u := hc0
  obtain rfl := k55_open hK
  exact ⟨ad, e, hc 0 _ rfl, by rw [← add_field _ _ 1 (by omega)]; exact hc 1 _ rfl, by rw [← add_field _ _ 2 (by omega)]; exact hc 2 _ rfl⟩
end Go.Proofs.Ytpdmnineampimaa.Q
namespace Go.Proofs.Ytpdmnineampimaa.Q
open Go.RowKit Go.Proofs.YtpdmnineampimaaW.PrintWords Go.Proofs.YtpdmnineampimaaW.PrintLast Go.Proofs.YtpdmnineampimaaW.PrintMore
attribute [local go_sem] max2_int min2_int max_two min_two max_three min_three max_four min_four
theorem kR {A B : Prop} (h : Aside0 A) (f : A → B := by intro h_; (with_reducible repeat (first | apply Kd.R_alloc | apply Kd.R_drewN | apply Kd.R_drew)); exact h_) : B := f h.out
theorem kB {A B : Prop} (h : Aside0 A) (f : A → B := by intro h_; repeat (first | (with_reducible first | exact h_ | apply below_alloc | apply pw_below_drewN | apply below_drew1) | exact h_)) : B := f h.out
theorem kB1 {A B G : Prop} (h : Aside0 A) (g : Aside0 G) (f : A → G → B := by intro h_ g_; repeat (first | (with_reducible first | exact h_ | apply below_alloc | apply pw_below_drewN | apply below_drew1 | refine below_set ?_ g_) | exact h_)) : B := f h.out g.out
theorem kB2 {A B G G2 : Prop} (h : Aside0 A) (g : Aside0 G) (g2 : Aside0 G2) (f : A → G → G2 → B := by intro h_ g_ g2_; repeat (first | (with_reducible first | exact h_ | apply below_alloc | apply pw_below_drewN | apply below_drew1 | refine below_set ?_ g_ | refine below_set ?_ g2_) | exact h_)) : B := f h.out g.out g2.out
theorem kB3 {A B G G2 G3 : Prop} (h : Aside0 A) (g : Aside0 G) (g2 : Aside0 G2) (g3 : Aside0 G3) (f : A → G → G2 → G3 → B := by intro h_ g_ g2_ g3_; repeat (first | (with_reducible first | exact h_ | apply below_alloc | apply pw_below_drewN | apply below_drew1 | refine below_set ?_ g_ | refine below_set ?_ g2_ | refine below_set ?_ g3_) | exact h_)) : B := f h.out g.out g2.out g3.out
theorem kK {A B : Prop} (h : Aside0 A) (f : A → B := by intro h_; (with_reducible repeat (first | refine blk_drewN ?_ _ | refine blk_drew ?_ | refine blk_alloc ?_ _)); exact h_) : B := f h.out
theorem tQ {A : Prop} (h : A := by first | rfl | (simp; done) | (simp [*]; done) | (congr 1; unfold wrap64; omega)) : A := h
theorem tA {A : Prop} (h : A := by first | (with_reducible assumption) | assumption) : A := h
theorem tL {A : Prop} (h : A := by (try simp only [List.map_toArray, List.map_cons, List.map_nil]); first | done | rfl | (simp only [List.length_drop, List.length_take]; rfl)) : A := h
theorem tD {p : Prop} [Decidable p] (h : decide p = true := by first | (with_reducible assumption) | assumption) : p := of_decide_eq_true h
theorem cB {B : Nat} {w W : World} {a : Addr} {v : Value} (h : Aside0 (Below B w W)) (hx : w.cell? a = some v) (hB : B = w.heap.size := by exact rfl) : W.cell? a = some v := by
  subst hB
  exact (h.out.cell (World.block_lt_of_cell? w _ hx)).trans hx
theorem bx2 {w : World} {g : Nat} {t : TypeId} {v0 v1 : Value} (h : Aside0 (w.heap[g]? = some (.cells #[v0, v1] t (0, 0)))) : (w.cell? ⟨g, 0, none⟩ = some v0 ∧ w.cell? ⟨g, 1, none⟩ = some v1) ∧ w.frozen? ⟨g, 0, none⟩ = false ∧ w.frozen? ⟨g, 1, none⟩ = false :=
  ⟨⟨(blk_cell h.out 0).trans rfl, (blk_cell h.out 1).trans rfl⟩, blk_frozen h.out 0, blk_frozen h.out 1⟩
theorem bx4 {w : World} {g : Nat} {t : TypeId} {v0 v1 v2 v3 : Value} (h : Aside0 (w.heap[g]? = some (.cells #[v0, v1, v2, v3] t (0, 0)))) : (w.cell? ⟨g, 0, none⟩ = some v0 ∧ w.cell? ⟨g, 1, none⟩ = some v1 ∧ w.cell? ⟨g, 2, none⟩ = some v2 ∧ w.cell? ⟨g, 3, none⟩ = some v3) ∧ w.frozen? ⟨g, 0, none⟩ = false ∧ w.frozen? ⟨g, 1, none⟩ = false ∧ w.frozen? ⟨g, 2, none⟩ = false ∧ w.frozen? ⟨g, 3, none⟩ = false :=
  ⟨⟨(blk_cell h.out 0).trans rfl, (blk_cell h.out 1).trans rfl, (blk_cell h.out 2).trans rfl, (blk_cell h.out 3).trans rfl⟩, blk_frozen h.out 0, blk_frozen h.out 1, blk_frozen h.out 2, blk_frozen h.out 3⟩
theorem bx5 {w : World} {g : Nat} {t : TypeId} {v0 v1 v2 v3 v4 : Value} (h : Aside0 (w.heap[g]? = some (.cells #[v0, v1, v2, v3, v4] t (0, 0)))) : (w.cell? ⟨g, 0, none⟩ = some v0 ∧ w.cell? ⟨g, 1, none⟩ = some v1 ∧ w.cell? ⟨g, 2, none⟩ = some v2 ∧ w.cell? ⟨g, 3, none⟩ = some v3 ∧ w.cell? ⟨g, 4, none⟩ = some v4) ∧ w.frozen? ⟨g, 0, none⟩ = false ∧ w.frozen? ⟨g, 1, none⟩ = false ∧ w.frozen? ⟨g, 2, none⟩ = false ∧ w.frozen? ⟨g, 3, none⟩ = false ∧ w.frozen? ⟨g, 4, none⟩ = false :=
  ⟨⟨(blk_cell h.out 0).trans rfl, (blk_cell h.out 1).trans rfl, (blk_cell h.out 2).trans rfl, (blk_cell h.out 3).trans rfl, (blk_cell h.out 4).trans rfl⟩, blk_frozen h.out 0, blk_frozen h.out 1, blk_frozen h.out 2, blk_frozen h.out 3, blk_frozen h.out 4⟩
theorem bx8 {w : World} {g : Nat} {t : TypeId} {v0 v1 v2 v3 v4 v5 v6 v7 : Value} (h : Aside0 (w.heap[g]? = some (.cells #[v0, v1, v2, v3, v4, v5, v6, v7] t (0, 0)))) : (w.cell? ⟨g, 0, none⟩ = some v0 ∧ w.cell? ⟨g, 1, none⟩ = some v1 ∧ w.cell? ⟨g, 2, none⟩ = some v2 ∧ w.cell? ⟨g, 3, none⟩ = some v3 ∧ w.cell? ⟨g, 4, none⟩ = some v4 ∧ w.cell? ⟨g, 5, none⟩ = some v5 ∧ w.cell? ⟨g, 6, none⟩ = some v6 ∧ w.cell? ⟨g, 7, none⟩ = some v7) ∧ w.frozen? ⟨g, 0, none⟩ = false ∧ w.frozen? ⟨g, 1, none⟩ = false ∧ w.frozen? ⟨g, 2, none⟩ = false ∧ w.frozen? ⟨g, 3, none⟩ = false ∧ w.frozen? ⟨g, 4, none⟩ = false ∧ w.frozen? ⟨g, 5, none⟩ = false ∧ w.frozen? ⟨g, 6, none⟩ = false ∧ w.frozen? ⟨g, 7, none⟩ = false :=
  ⟨⟨(blk_cell h.out 0).trans rfl, (blk_cell h.out 1).trans rfl, (blk_cell h.out 2).trans rfl, (blk_cell h.out 3).trans rfl, (blk_cell h.out 4).trans rfl, (blk_cell h.out 5).trans rfl, (blk_cell h.out 6).trans rfl, (blk_cell h.out 7).trans rfl⟩, blk_frozen h.out 0, blk_frozen h.out 1, blk_frozen h.out 2, blk_frozen h.out 3, blk_frozen h.out 4, blk_frozen h.out 5, blk_frozen h.out 6, blk_frozen h.out 7⟩
theorem bx11 {w : World} {g : Nat} {t : TypeId} {v0 v1 v2 v3 v4 v5 v6 v7 v8 v9 v10 : Value} (h : Aside0 (w.heap[g]? = some (.cells #[v0, v1, v2, v3, v4, v5, v6, v7, v8, v9, v10] t (0, 0)))) : (w.cell? ⟨g, 0, none⟩ = some v0 ∧ w.cell? ⟨g, 1, none⟩ = some v1 ∧ w.cell? ⟨g, 2, none⟩ = some v2 ∧ w.cell? ⟨g, 3, none⟩ = some v3 ∧ w.cell? ⟨g, 4, none⟩ = some v4 ∧ w.cell? ⟨g, 5, none⟩ = some v5 ∧ w.cell? ⟨g, 6, none⟩ = some v6 ∧ w.cell? ⟨g, 7, none⟩ = some v7 ∧ w.cell? ⟨g, 8, none⟩ = some v8 ∧ w.cell? ⟨g, 9, none⟩ = some v9 ∧ w.cell? ⟨g, 10, none⟩ = some v10) ∧ w.frozen? ⟨g, 0, none⟩ = false ∧ w.frozen? ⟨g, 1, none⟩ = false ∧ w.frozen? ⟨g, 2, none⟩ = false ∧ w.frozen? ⟨g, 3, none⟩ = false ∧ w.frozen? ⟨g, 4, none⟩ = false ∧ w.frozen? ⟨g, 5, none⟩ = false ∧ w.frozen? ⟨g, 6, none⟩ = false ∧ w.frozen? ⟨g, 7, none⟩ = false ∧ w.frozen? ⟨g, 8, none⟩ = false ∧ w.frozen? ⟨g, 9, none⟩ = false ∧ w.frozen? ⟨g, 10, none⟩ = false :=
  ⟨⟨(blk_cell h.out 0).trans rfl, (blk_cell h.out 1).trans rfl, (blk_cell h.out 2).trans rfl, (blk_cell h.out 3).trans rfl, (blk_cell h.out 4).trans rfl, (blk_cell h.out 5).trans rfl, (blk_cell h.out 6).trans rfl, (blk_cell h.out 7).trans rfl, (blk_cell h.out 8).trans rfl, (blk_cell h.out 9).trans rfl, (blk_cell h.out 10).trans rfl⟩, blk_frozen h.out 0, blk_frozen h.out 1, blk_frozen h.out 2, blk_frozen h.out 3, blk_frozen h.out 4, blk_frozen h.out 5, blk_frozen h.out 6, blk_frozen h.out 7, blk_frozen h.out 8, blk_frozen h.out 9, blk_frozen h.out 10⟩
theorem kC {A B : Prop} (h : A) (f : A → B := by intro h_; repeat (first | exact h_ | (with_reducible refine Kd.C_alloc ?_ _) | (with_reducible refine Kd.C_drewN ?_ _) | (with_reducible refine Kd.C_drew ?_))) : B := f h
end Go.Proofs.Ytpdmnineampimaa.Q
namespace Go.Proofs.Ytpdmnineampimaa.Q
open Go.RowKit Go.Proofs.YtpdmnineampimaaW.PrintWords Go.Proofs.YtpdmnineampimaaW.PrintLast Go.Proofs.YtpdmnineampimaaW.PrintMore
attribute [local go_sem] max2_int min2_int max_two min_two max_three min_three max_four min_four
theorem eqArr_of {P : Program} {t e n d sz : Nat} {xs ys : Array Value} {w : World} (hu : P.underlying t = some (.array n e)) (hs : (sizeOf e).run P w = .ok sz w) (bs : List Bool) (hl : bs.length = n)
    (h : ∀ (i : Nat) (b : Bool), bs[i]? = some b → ∃ x y, (part e xs (i * sz)).run P w = .ok x w ∧ (part e ys (i * sz)).run P w = .ok y w ∧ (Op.equalIn d e x y).run P w = .ok b w) :
    (Op.equalIn (d + 1) t (.agg xs) (.agg ys)).run P w = .ok (bs.all id) w := by
  rw [Op.equalIn]
  simp only [Sem.run_bind, run_underlying hu, Result.andThen_ok, Std.Legacy.Range.forIn_eq_forIn_range', Std.Legacy.Range.size, hs]
  have key : ∀ (bs : List Bool) (j : Nat), (∀ (i : Nat) (b : Bool), bs[i]? = some b → ∃ x y, (part e xs ((j + i) * sz)).run P w = .ok x w ∧ (part e ys ((j + i) * sz)).run P w = .ok y w ∧ (Op.equalIn d e x y).run P w = .ok b w) →
      (Sem.run P (forIn (List.range' j bs.length) (none, ()) fun (i : Nat) (__s : Option Bool × Unit) => do
              let a1 ← part e xs (i * sz)
              let a2 ← part e ys (i * sz)
              let b ← Op.equalIn d e a1 a2
              if (!b) = true then pure (ForInStep.done (some false, ())) else pure (ForInStep.yield (none, ()))) w) = .ok (if bs.all id then none else some false, ()) w := by
    intro bs
    induction bs with
    | nil => intro j _; simp
    | cons b bs ih =>
      intro j hj
      obtain ⟨x, y, h1, h2, h3⟩ := hj 0 b rfl
      rw [Nat.add_zero] at h1 h2
      simp only [List.length_cons, List.range'_succ, List.forIn_cons, Sem.run_bind, h1, h2, h3, Result.andThen_ok]
      cases b
      · simp
      · simp only [Bool.not_true, Bool.false_eq_true, if_false, Sem.run_pure, Result.andThen_ok]
        rw [ih (j + 1) (fun i b hb => by have := hj (i + 1) b (by simpa using hb); rwa [show j + (i + 1) = j + 1 + i by omega] at this)]
        simp
  have hk := key bs 0 (fun i b hb => by simpa using h i b hb)
  have hn : (n - 0 + 1 - 1) / 1 = bs.length := by omega
  rw [hn]
  refine (congrArg (fun r => Result.andThen r _) hk).trans ?_
  simp only [Result.andThen_ok]
  cases bs.all id <;> simp
theorem ix_arr {P : Program} {t e n : Nat} (hu : P.underlying t = some (.array n e)) (hs : ∀ W : World, (sizeOf e).run P W = .ok 1 W) (q : Nat) (hq : q < n) (x : Int) (hx : x = q) (a : Addr) (W : World) :
    (Instr.indexAt t (.pointer (some a)) (.int .i64 x)).run P W = .ok (.pointer (some (a.add q))) W := by
  subst hx
  have h1 : (0 : Int) ≤ (q : Int) ∧ (q : Int) < (n : Int) := by omega
  simp [Instr.indexAt, run_underlying hu, Instr.sureAddr, asIntOf, hs, hq]
end Go.Proofs.Ytpdmnineampimaa.Q
namespace Go.Proofs.Ytpdmnineampimaa.Q
open Go.RowKit Go.Proofs.YtpdmnineampimaaW.PrintWords Go.Proofs.YtpdmnineampimaaW.PrintLast Go.Proofs.YtpdmnineampimaaW.PrintMore
attribute [local go_sem] max2_int min2_int max_two min_two max_three min_three max_four min_four
section
variable {H : Type} {α : Type}
def Opens (enc : TypeId × Value → H) (P : Program) (W : World) (t : TypeId) (d : Kd α) (wf : α → Prop) : Prop :=
  ∀ (base : Nat) (spare : Nat → Bool) (held : Bool) (fuel : Nat) (cs : List Value) (x : DataW H × List MemPlace), DataW.trod enc P W base spare held fuel t cs = some x → ∃ a, d.K W a cs ∧ wf a
theorem opens_int {enc : TypeId × Value → H} {P : Program} {W : World} {t : TypeId} {k : IntKind} (ht : P.underlying t = some (.int k)) : Opens enc P W t (Kd.int k) (fun a => (Lit.int k a).wf = true) := by
  intro base spare held fuel cs x h
  obtain ⟨n, rfl, _, hw⟩ := DataW.trod_int ht h
  exact ⟨n, rfl, hw⟩
theorem opens_string {enc : TypeId × Value → H} {P : Program} {W : World} {t : TypeId} (ht : P.underlying t = some .string) : Opens enc P W t Kd.string (fun a => a.size ≤ maxLen) := by
  intro base spare held fuel cs x h
  obtain ⟨n, rfl, _, hw⟩ := DataW.trod_string ht h
  exact ⟨n, rfl, hw⟩
theorem list_choice {β : Type} (p : Nat → β → Prop) : ∀ n : Nat, (∀ i, i < n → ∃ b, p i b) → ∃ l : List β, l.length = n ∧ ∀ i b, l[i]? = some b → p i b
  | 0, _ => ⟨[], rfl, fun i b h => by simp at h⟩
  | n + 1, h => by
    obtain ⟨l, hl, hp⟩ := list_choice p n (fun i hi => h i (by omega))
    obtain ⟨b, hb⟩ := h n (by omega)
    refine ⟨l ++ [b], by simp [hl], fun i c hc => ?_⟩
    rcases Nat.lt_or_ge i l.length with hi | hi
    · rw [List.getElem?_append_left hi] at hc; exact hp i c hc
    · rw [List.getElem?_append_right hi] at hc
      have : i - l.length = 0 := by
        rcases Nat.eq_zero_or_pos (i - l.length) with h0 | h0
        · exact h0
        · rw [List.getElem?_eq_none (by simp; omega)] at hc; cases hc
      rw [this] at hc
      simp only [List.getElem?_cons_zero, Option.some.injEq] at hc
      subst hc
      have : i = n := by omega
      rw [this]; exact hb
theorem cells_get {w : World} {base : Nat} {a : Addr} {n : Nat} {cs : List Value} (h : w.cells? base a n = some cs) {j : Nat} {u : Value} (hj : cs[j]? = some u) : w.cell? (a.add j) = some u := by
  unfold World.cells? at h
  split at h
  · have hl := mapM_some_length h
    rw [List.length_range] at hl
    have hlt : j < cs.length := (List.getElem?_eq_some_iff.1 hj).1
    have := mapM_some_get h j j (by rw [List.getElem?_range (by omega)])
    rw [this, hj]
  · cases h
theorem opens_slice {enc : TypeId × Value → H} {P : Program} {W : World} {t e : TypeId} {d : Kd α} {wf : α → Prop} (ht : P.underlying t = some (.slice e)) (hc : P.cellsOf e = d.sz) (h : Opens enc P W e d wf) :
    Opens enc P W t (Kd.slice e d) (fun l => l.length ≤ maxLen ∧ ∀ x ∈ l, wf x) := by
  intro base spare held fuel cs x hx
  rcases DataW.trod_slice ht hx with ⟨rfl, _⟩ | ⟨a, len, cap, elems, rest, n, _, rfl, _, _, hlc, hm, hel, hget, _, _⟩
  · exact ⟨[], ⟨none, 0, rfl, Nat.le_refl _, Kd.C_nil d W⟩, by simp, by simp⟩
  · obtain ⟨l, hl, hp⟩ := list_choice (fun i b => ∃ c : List Value, c.length = d.sz ∧ d.K W b c ∧ (∀ j u, c[j]? = some u → W.cell? (a.add (i * d.sz + j)) = some u) ∧ wf b) len (fun i hi => by
      have g := hget i hi
      obtain ⟨y, hy⟩ : ∃ y, elems[i]? = some y := ⟨_, List.getElem?_eq_getElem (by omega)⟩
      rw [hy] at g
      obtain ⟨c, hcs, htr⟩ := Option.bind_eq_some_iff.1 g
      obtain ⟨b, hK, hw⟩ := h base spare held n c y htr
      refine ⟨b, c, d.K_len hK, hK, fun j u hj => ?_, hw⟩
      have := cells_get hcs hj
      rw [hc] at this
      rwa [Addr.add_add] at this)
    refine ⟨l, ⟨some a, cap, by rw [hl], by omega, rfl, ?_, fun _ => ⟨a, rfl, fun j p hj => ?_⟩⟩, by omega, fun x hx => ?_⟩
    · have : maxLen = 9223372036854775807 := rfl
      omega
    · obtain ⟨c, h1, h2, h3, _⟩ := hp j p hj
      exact ⟨c, h1, h2, h3⟩
    · obtain ⟨i, hi, rfl⟩ := List.mem_iff_getElem.1 hx
      obtain ⟨c, h1, h2, h3, h4⟩ := hp i _ (List.getElem?_eq_getElem hi)
      exact h4
end
theorem hd_eq_of_cons {α : Type} {a b : α} {l m : List α} (h : a :: l = b :: m) : a = b := by injection h
end Go.Proofs.Ytpdmnineampimaa.Q
namespace Go.Proofs.Ytpdmnineampimaa.Q
open Go.RowKit Go.Proofs.YtpdmnineampimaaW.PrintWords Go.Proofs.YtpdmnineampimaaW.PrintLast Go.Proofs.YtpdmnineampimaaW.PrintMore
attribute [local go_sem] max2_int min2_int max_two min_two max_three min_three max_four min_four
section
variable {H : Type} {enc : TypeId × Value → H} {W : World}
theorem op_9 : Opens enc Try.prog W 9 Kd.string (fun x_ => x_.size ≤ maxLen) := opens_string Try.underlying9
theorem op_3 : Opens enc Try.prog W 3 (Kd.int .i64) (fun x_ => (Lit.int .i64 x_).wf = true) := opens_int Try.underlying3
def wfS44 (x : S44) : Prop := ((Lit.int .i64 x.f0).wf = true) ∧ ((Lit.int .i64 x.f1).wf = true)
set_option maxRecDepth 100000 in
theorem op_44 : Opens enc Try.prog W 44 k44 wfS44 := by
  intro base spare held fuel cs x h
  obtain ⟨xs, n, _, _, hlen, hxl, hf⟩ := DataW.trod_struct Try.underlying44 h
  have hcl : Try.prog.cellsOf 44 = 2 := by kernel_rfl
  rw [hcl] at hlen
  obtain ⟨c0, c1, rfl⟩ : ∃ c0 c1, cs = [c0, c1] := by
    match cs, hlen with
    | [c0, c1], _ => exact ⟨c0, c1, rfl⟩
  have q0 : Try.prog.cellsOf 3 = 1 := by kernel_rfl
  have g0 := hf 0 _ rfl
  obtain ⟨y0, hy0⟩ : ∃ y, xs[0]? = some y := ⟨_, List.getElem?_eq_getElem (by rw [hxl]; decide)⟩
  have G0 : DataW.trod enc Try.prog W base spare held n 3 [c0] = some y0 := by rw [← hy0, ← g0]; show _ = DataW.trod enc Try.prog W base spare held n 3 (List.take (Try.prog.cellsOf 3) _); rw [q0]; rfl
  obtain ⟨b0, K0, w0⟩ := op_3 _ _ _ _ _ _ G0
  obtain rfl : c0 = .int .i64 b0 := hd_eq_of_cons K0
  have q1 : Try.prog.cellsOf 3 = 1 := by kernel_rfl
  have g1 := hf 1 _ rfl
  obtain ⟨y1, hy1⟩ : ∃ y, xs[1]? = some y := ⟨_, List.getElem?_eq_getElem (by rw [hxl]; decide)⟩
  have G1 : DataW.trod enc Try.prog W base spare held n 3 [c1] = some y1 := by rw [← hy1, ← g1]; show _ = DataW.trod enc Try.prog W base spare held n 3 (List.take (Try.prog.cellsOf 3) _); rw [q1]; rfl
  obtain ⟨b1, K1, w1⟩ := op_3 _ _ _ _ _ _ G1
  obtain rfl : c1 = .int .i64 b1 := hd_eq_of_cons K1
  exact ⟨⟨b0, b1⟩, k44_mk W ⟨b0, b1⟩ , ⟨w0, w1⟩⟩
def wfS46 (x : S46) : Prop := ((Lit.int .i64 x.f0).wf = true) ∧ ((Lit.int .i64 x.f1).wf = true) ∧ ((Lit.int .i64 x.f2).wf = true) ∧ ((Lit.int .i64 x.f3).wf = true) ∧ ((Lit.int .i64 x.f4).wf = true)
set_option maxRecDepth 100000 in
theorem op_46 : Opens enc Try.prog W 46 k46 wfS46 := by
  intro base spare held fuel cs x h
  obtain ⟨xs, n, _, _, hlen, hxl, hf⟩ := DataW.trod_struct Try.underlying46 h
  have hcl : Try.prog.cellsOf 46 = 5 := by kernel_rfl
  rw [hcl] at hlen
  obtain ⟨c0, c1, c2, c3, c4, rfl⟩ : ∃ c0 c1 c2 c3 c4, cs = [c0, c1, c2, c3, c4] := by
    match cs, hlen with
    | [c0, c1, c2, c3, c4], _ => exact ⟨c0, c1, c2, c3, c4, rfl⟩
  have q0 : Try.prog.cellsOf 3 = 1 := by kernel_rfl
  have g0 := hf 0 _ rfl
  obtain ⟨y0, hy0⟩ : ∃ y, xs[0]? = some y := ⟨_, List.getElem?_eq_getElem (by rw [hxl]; decide)⟩
  have G0 : DataW.trod enc Try.prog W base spare held n 3 [c0] = some y0 := by rw [← hy0, ← g0]; show _ = DataW.trod enc Try.prog W base spare held n 3 (List.take (Try.prog.cellsOf 3) _); rw [q0]; rfl
  obtain ⟨b0, K0, w0⟩ := op_3 _ _ _ _ _ _ G0
  obtain rfl : c0 = .int .i64 b0 := hd_eq_of_cons K0
  have q1 : Try.prog.cellsOf 3 = 1 := by kernel_rfl
  have g1 := hf 1 _ rfl
  obtain ⟨y1, hy1⟩ : ∃ y, xs[1]? = some y := ⟨_, List.getElem?_eq_getElem (by rw [hxl]; decide)⟩
  have G1 : DataW.trod enc Try.prog W base spare held n 3 [c1] = some y1 := by rw [← hy1, ← g1]; show _ = DataW.trod enc Try.prog W base spare held n 3 (List.take (Try.prog.cellsOf 3) _); rw [q1]; rfl
  obtain ⟨b1, K1, w1⟩ := op_3 _ _ _ _ _ _ G1
  obtain rfl : c1 = .int .i64 b1 := hd_eq_of_cons K1
  have q2 : Try.prog.cellsOf 3 = 1 := by kernel_rfl
  have g2 := hf 2 _ rfl
  obtain ⟨y2, hy2⟩ : ∃ y, xs[2]? = some y := ⟨_, List.getElem?_eq_getElem (by rw [hxl]; decide)⟩
  have G2 : DataW.trod enc Try.prog W base spare held n 3 [c2] = some y2 := by rw [← hy2, ← g2]; show _ = DataW.trod enc Try.prog W base spare held n 3 (List.take (Try.prog.cellsOf 3) _); rw [q2]; rfl
  obtain ⟨b2, K2, w2⟩ := op_3 _ _ _ _ _ _ G2
  obtain rfl : c2 = .int .i64 b2 := hd_eq_of_cons K2
  have q3 : Try.prog.cellsOf 3 = 1 := by kernel_rfl
  have g3 := hf 3 _ rfl
  obtain ⟨y3, hy3⟩ : ∃ y, xs[3]? = some y := ⟨_, List.getElem?_eq_getElem (by rw [hxl]; decide)⟩
  have G3 : DataW.trod enc Try.prog W base spare held n 3 [c3] = some y3 := by rw [← hy3, ← g3]; show _ = DataW.trod enc Try.prog W base spare held n 3 (List.take (Try.prog.cellsOf 3) _); rw [q3]; rfl
  obtain ⟨b3, K3, w3⟩ := op_3 _ _ _ _ _ _ G3
  obtain rfl : c3 = .int .i64 b3 := hd_eq_of_cons K3
  have q4 : Try.prog.cellsOf 3 = 1 := by kernel_rfl
  have g4 := hf 4 _ rfl
  obtain ⟨y4, hy4⟩ : ∃ y, xs[4]? = some y := ⟨_, List.getElem?_eq_getElem (by rw [hxl]; decide)⟩
  have G4 : DataW.trod enc Try.prog W base spare held n 3 [c4] = some y4 := by rw [← hy4, ← g4]; show _ = DataW.trod enc Try.prog W base spare held n 3 (List.take (Try.prog.cellsOf 3) _); rw [q4]; rfl
  obtain ⟨b4, K4, w4⟩ := op_3 _ _ _ _ _ _ G4
  obtain rfl : c4 = .int .i64 b4 := hd_eq_of_cons K4
  exact ⟨⟨b0, b1, b2, b3, b4⟩, k46_mk W ⟨b0, b1, b2, b3, b4⟩ , ⟨w0, w1, w2, w3, w4⟩⟩
def wfS48 (x : S48) : Prop := (x.f0.size ≤ maxLen) ∧ ((Lit.int .i64 x.f1).wf = true) ∧ ((Lit.int .i64 x.f2).wf = true) ∧ ((Lit.int .i64 x.f3).wf = true) ∧ (wfS44 x.f4) ∧ (wfS46 x.f5)
set_option maxRecDepth 100000 in
theorem op_48 : Opens enc Try.prog W 48 k48 wfS48 := by
  intro base spare held fuel cs x h
  obtain ⟨xs, n, _, _, hlen, hxl, hf⟩ := DataW.trod_struct Try.underlying48 h
  have hcl : Try.prog.cellsOf 48 = 11 := by kernel_rfl
  rw [hcl] at hlen
  obtain ⟨c0, c1, c2, c3, c4, c5, c6, c7, c8, c9, c10, rfl⟩ : ∃ c0 c1 c2 c3 c4 c5 c6 c7 c8 c9 c10, cs = [c0, c1, c2, c3, c4, c5, c6, c7, c8, c9, c10] := by
    match cs, hlen with
    | [c0, c1, c2, c3, c4, c5, c6, c7, c8, c9, c10], _ => exact ⟨c0, c1, c2, c3, c4, c5, c6, c7, c8, c9, c10, rfl⟩
  have q0 : Try.prog.cellsOf 9 = 1 := by kernel_rfl
  have g0 := hf 0 _ rfl
  obtain ⟨y0, hy0⟩ : ∃ y, xs[0]? = some y := ⟨_, List.getElem?_eq_getElem (by rw [hxl]; decide)⟩
  have G0 : DataW.trod enc Try.prog W base spare held n 9 [c0] = some y0 := by rw [← hy0, ← g0]; show _ = DataW.trod enc Try.prog W base spare held n 9 (List.take (Try.prog.cellsOf 9) _); rw [q0]; rfl
  obtain ⟨b0, K0, w0⟩ := op_9 _ _ _ _ _ _ G0
  obtain rfl : c0 = .string b0 := hd_eq_of_cons K0
  have q1 : Try.prog.cellsOf 3 = 1 := by kernel_rfl
  have g1 := hf 1 _ rfl
  obtain ⟨y1, hy1⟩ : ∃ y, xs[1]? = some y := ⟨_, List.getElem?_eq_getElem (by rw [hxl]; decide)⟩
  have G1 : DataW.trod enc Try.prog W base spare held n 3 [c1] = some y1 := by rw [← hy1, ← g1]; show _ = DataW.trod enc Try.prog W base spare held n 3 (List.take (Try.prog.cellsOf 3) _); rw [q1]; rfl
  obtain ⟨b1, K1, w1⟩ := op_3 _ _ _ _ _ _ G1
  obtain rfl : c1 = .int .i64 b1 := hd_eq_of_cons K1
  have q2 : Try.prog.cellsOf 3 = 1 := by kernel_rfl
  have g2 := hf 2 _ rfl
  obtain ⟨y2, hy2⟩ : ∃ y, xs[2]? = some y := ⟨_, List.getElem?_eq_getElem (by rw [hxl]; decide)⟩
  have G2 : DataW.trod enc Try.prog W base spare held n 3 [c2] = some y2 := by rw [← hy2, ← g2]; show _ = DataW.trod enc Try.prog W base spare held n 3 (List.take (Try.prog.cellsOf 3) _); rw [q2]; rfl
  obtain ⟨b2, K2, w2⟩ := op_3 _ _ _ _ _ _ G2
  obtain rfl : c2 = .int .i64 b2 := hd_eq_of_cons K2
  have q3 : Try.prog.cellsOf 3 = 1 := by kernel_rfl
  have g3 := hf 3 _ rfl
  obtain ⟨y3, hy3⟩ : ∃ y, xs[3]? = some y := ⟨_, List.getElem?_eq_getElem (by rw [hxl]; decide)⟩
  have G3 : DataW.trod enc Try.prog W base spare held n 3 [c3] = some y3 := by rw [← hy3, ← g3]; show _ = DataW.trod enc Try.prog W base spare held n 3 (List.take (Try.prog.cellsOf 3) _); rw [q3]; rfl
  obtain ⟨b3, K3, w3⟩ := op_3 _ _ _ _ _ _ G3
  obtain rfl : c3 = .int .i64 b3 := hd_eq_of_cons K3
  have q4 : Try.prog.cellsOf 44 = 2 := by kernel_rfl
  have g4 := hf 4 _ rfl
  obtain ⟨y4, hy4⟩ : ∃ y, xs[4]? = some y := ⟨_, List.getElem?_eq_getElem (by rw [hxl]; decide)⟩
  have G4 : DataW.trod enc Try.prog W base spare held n 44 [c4, c5] = some y4 := by rw [← hy4, ← g4]; show _ = DataW.trod enc Try.prog W base spare held n 44 (List.take (Try.prog.cellsOf 44) _); rw [q4]; rfl
  obtain ⟨b4, K4, w4⟩ := op_44 _ _ _ _ _ _ G4
  have K4_ := k44_open K4
  have hs4 := K4_
  simp only [List.cons.injEq, and_true] at hs4
  obtain ⟨rfl, rfl⟩ := hs4
  have q5 : Try.prog.cellsOf 46 = 5 := by kernel_rfl
  have g5 := hf 5 _ rfl
  obtain ⟨y5, hy5⟩ : ∃ y, xs[5]? = some y := ⟨_, List.getElem?_eq_getElem (by rw [hxl]; decide)⟩
  have G5 : DataW.trod enc Try.prog W base spare held n 46 [c6, c7, c8, c9, c10] = some y5 := by rw [← hy5, ← g5]; show _ = DataW.trod enc Try.prog W base spare held n 46 (List.take (Try.prog.cellsOf 46) _); rw [q5]; rfl
  obtain ⟨b5, K5, w5⟩ := op_46 _ _ _ _ _ _ G5
  have K5_ := k46_open K5
  have hs5 := K5_
  simp only [List.cons.injEq, and_true] at hs5
  obtain ⟨rfl, rfl, rfl, rfl, rfl⟩ := hs5
  exact ⟨⟨b0, b1, b2, b3, b4, b5⟩, k48_mk W ⟨b0, b1, b2, b3, b4, b5⟩ , ⟨w0, w1, w2, w3, w4, w5⟩⟩
theorem op_22 : Opens enc Try.prog W 22 (Kd.slice 48 k48) (fun x_ => x_.length ≤ maxLen ∧ ∀ y_ ∈ x_, wfS48 y_) := opens_slice Try.underlying22 (by kernel_rfl) op_48
def wfS62 (x : S62) : Prop := (x.f0.size ≤ maxLen)
set_option maxRecDepth 100000 in
theorem op_62 : Opens enc Try.prog W 62 k62 wfS62 := by
  intro base spare held fuel cs x h
  obtain ⟨xs, n, _, _, hlen, hxl, hf⟩ := DataW.trod_struct Try.underlying62 h
  have hcl : Try.prog.cellsOf 62 = 1 := by kernel_rfl
  rw [hcl] at hlen
  obtain ⟨c0, rfl⟩ : ∃ c0, cs = [c0] := by
    match cs, hlen with
    | [c0], _ => exact ⟨c0, rfl⟩
  have q0 : Try.prog.cellsOf 9 = 1 := by kernel_rfl
  have g0 := hf 0 _ rfl
  obtain ⟨y0, hy0⟩ : ∃ y, xs[0]? = some y := ⟨_, List.getElem?_eq_getElem (by rw [hxl]; decide)⟩
  have G0 : DataW.trod enc Try.prog W base spare held n 9 [c0] = some y0 := by rw [← hy0, ← g0]; show _ = DataW.trod enc Try.prog W base spare held n 9 (List.take (Try.prog.cellsOf 9) _); rw [q0]; rfl
  obtain ⟨b0, K0, w0⟩ := op_9 _ _ _ _ _ _ G0
  obtain rfl : c0 = .string b0 := hd_eq_of_cons K0
  exact ⟨⟨b0⟩, k62_mk W ⟨b0⟩ , w0⟩
theorem op_23 : Opens enc Try.prog W 23 (Kd.slice 62 k62) (fun x_ => x_.length ≤ maxLen ∧ ∀ y_ ∈ x_, wfS62 y_) := opens_slice Try.underlying23 (by kernel_rfl) op_62
def wfS84 (x : S84) : Prop := (x.f0.size ≤ maxLen) ∧ ((Lit.int .i64 x.f1).wf = true) ∧ ((Lit.int .i64 x.f2).wf = true) ∧ ((Lit.int .i64 x.f3).wf = true)
set_option maxRecDepth 100000 in
theorem op_84 : Opens enc Try.prog W 84 k84 wfS84 := by
  intro base spare held fuel cs x h
  obtain ⟨xs, n, _, _, hlen, hxl, hf⟩ := DataW.trod_struct Try.underlying84 h
  have hcl : Try.prog.cellsOf 84 = 4 := by kernel_rfl
  rw [hcl] at hlen
  obtain ⟨c0, c1, c2, c3, rfl⟩ : ∃ c0 c1 c2 c3, cs = [c0, c1, c2, c3] := by
    match cs, hlen with
    | [c0, c1, c2, c3], _ => exact ⟨c0, c1, c2, c3, rfl⟩
  have q0 : Try.prog.cellsOf 9 = 1 := by kernel_rfl
  have g0 := hf 0 _ rfl
  obtain ⟨y0, hy0⟩ : ∃ y, xs[0]? = some y := ⟨_, List.getElem?_eq_getElem (by rw [hxl]; decide)⟩
  have G0 : DataW.trod enc Try.prog W base spare held n 9 [c0] = some y0 := by rw [← hy0, ← g0]; show _ = DataW.trod enc Try.prog W base spare held n 9 (List.take (Try.prog.cellsOf 9) _); rw [q0]; rfl
  obtain ⟨b0, K0, w0⟩ := op_9 _ _ _ _ _ _ G0
  obtain rfl : c0 = .string b0 := hd_eq_of_cons K0
  have q1 : Try.prog.cellsOf 3 = 1 := by kernel_rfl
  have g1 := hf 1 _ rfl
  obtain ⟨y1, hy1⟩ : ∃ y, xs[1]? = some y := ⟨_, List.getElem?_eq_getElem (by rw [hxl]; decide)⟩
  have G1 : DataW.trod enc Try.prog W base spare held n 3 [c1] = some y1 := by rw [← hy1, ← g1]; show _ = DataW.trod enc Try.prog W base spare held n 3 (List.take (Try.prog.cellsOf 3) _); rw [q1]; rfl
  obtain ⟨b1, K1, w1⟩ := op_3 _ _ _ _ _ _ G1
  obtain rfl : c1 = .int .i64 b1 := hd_eq_of_cons K1
  have q2 : Try.prog.cellsOf 3 = 1 := by kernel_rfl
  have g2 := hf 2 _ rfl
  obtain ⟨y2, hy2⟩ : ∃ y, xs[2]? = some y := ⟨_, List.getElem?_eq_getElem (by rw [hxl]; decide)⟩
  have G2 : DataW.trod enc Try.prog W base spare held n 3 [c2] = some y2 := by rw [← hy2, ← g2]; show _ = DataW.trod enc Try.prog W base spare held n 3 (List.take (Try.prog.cellsOf 3) _); rw [q2]; rfl
  obtain ⟨b2, K2, w2⟩ := op_3 _ _ _ _ _ _ G2
  obtain rfl : c2 = .int .i64 b2 := hd_eq_of_cons K2
  have q3 : Try.prog.cellsOf 3 = 1 := by kernel_rfl
  have g3 := hf 3 _ rfl
  obtain ⟨y3, hy3⟩ : ∃ y, xs[3]? = some y := ⟨_, List.getElem?_eq_getElem (by rw [hxl]; decide)⟩
  have G3 : DataW.trod enc Try.prog W base spare held n 3 [c3] = some y3 := by rw [← hy3, ← g3]; show _ = DataW.trod enc Try.prog W base spare held n 3 (List.take (Try.prog.cellsOf 3) _); rw [q3]; rfl
  obtain ⟨b3, K3, w3⟩ := op_3 _ _ _ _ _ _ G3
  obtain rfl : c3 = .int .i64 b3 := hd_eq_of_cons K3
  exact ⟨⟨b0, b1, b2, b3⟩, k84_mk W ⟨b0, b1, b2, b3⟩ , ⟨w0, w1, w2, w3⟩⟩
theorem op_24 : Opens enc Try.prog W 24 (Kd.slice 84 k84) (fun x_ => x_.length ≤ maxLen ∧ ∀ y_ ∈ x_, wfS84 y_) := opens_slice Try.underlying24 (by kernel_rfl) op_84
def wfS42 (x : S42) : Prop := (x.f0.size ≤ maxLen) ∧ ((Lit.int .i64 x.f1).wf = true) ∧ ((Lit.int .i64 x.f2).wf = true) ∧ ((Lit.int .i64 x.f3).wf = true) ∧ ((Lit.int .i64 x.f4).wf = true) ∧ ((Lit.int .i64 x.f5).wf = true) ∧ ((Lit.int .i64 x.f6).wf = true) ∧ ((Lit.int .i64 x.f7).wf = true)
set_option maxRecDepth 100000 in
theorem op_42 : Opens enc Try.prog W 42 k42 wfS42 := by
  intro base spare held fuel cs x h
  obtain ⟨xs, n, _, _, hlen, hxl, hf⟩ := DataW.trod_struct Try.underlying42 h
  have hcl : Try.prog.cellsOf 42 = 8 := by kernel_rfl
  rw [hcl] at hlen
  obtain ⟨c0, c1, c2, c3, c4, c5, c6, c7, rfl⟩ : ∃ c0 c1 c2 c3 c4 c5 c6 c7, cs = [c0, c1, c2, c3, c4, c5, c6, c7] := by
    match cs, hlen with
    | [c0, c1, c2, c3, c4, c5, c6, c7], _ => exact ⟨c0, c1, c2, c3, c4, c5, c6, c7, rfl⟩
  have q0 : Try.prog.cellsOf 9 = 1 := by kernel_rfl
  have g0 := hf 0 _ rfl
  obtain ⟨y0, hy0⟩ : ∃ y, xs[0]? = some y := ⟨_, List.getElem?_eq_getElem (by rw [hxl]; decide)⟩
  have G0 : DataW.trod enc Try.prog W base spare held n 9 [c0] = some y0 := by rw [← hy0, ← g0]; show _ = DataW.trod enc Try.prog W base spare held n 9 (List.take (Try.prog.cellsOf 9) _); rw [q0]; rfl
  obtain ⟨b0, K0, w0⟩ := op_9 _ _ _ _ _ _ G0
  obtain rfl : c0 = .string b0 := hd_eq_of_cons K0
  have q1 : Try.prog.cellsOf 3 = 1 := by kernel_rfl
  have g1 := hf 1 _ rfl
  obtain ⟨y1, hy1⟩ : ∃ y, xs[1]? = some y := ⟨_, List.getElem?_eq_getElem (by rw [hxl]; decide)⟩
  have G1 : DataW.trod enc Try.prog W base spare held n 3 [c1] = some y1 := by rw [← hy1, ← g1]; show _ = DataW.trod enc Try.prog W base spare held n 3 (List.take (Try.prog.cellsOf 3) _); rw [q1]; rfl
  obtain ⟨b1, K1, w1⟩ := op_3 _ _ _ _ _ _ G1
  obtain rfl : c1 = .int .i64 b1 := hd_eq_of_cons K1
  have q2 : Try.prog.cellsOf 3 = 1 := by kernel_rfl
  have g2 := hf 2 _ rfl
  obtain ⟨y2, hy2⟩ : ∃ y, xs[2]? = some y := ⟨_, List.getElem?_eq_getElem (by rw [hxl]; decide)⟩
  have G2 : DataW.trod enc Try.prog W base spare held n 3 [c2] = some y2 := by rw [← hy2, ← g2]; show _ = DataW.trod enc Try.prog W base spare held n 3 (List.take (Try.prog.cellsOf 3) _); rw [q2]; rfl
  obtain ⟨b2, K2, w2⟩ := op_3 _ _ _ _ _ _ G2
  obtain rfl : c2 = .int .i64 b2 := hd_eq_of_cons K2
  have q3 : Try.prog.cellsOf 3 = 1 := by kernel_rfl
  have g3 := hf 3 _ rfl
  obtain ⟨y3, hy3⟩ : ∃ y, xs[3]? = some y := ⟨_, List.getElem?_eq_getElem (by rw [hxl]; decide)⟩
  have G3 : DataW.trod enc Try.prog W base spare held n 3 [c3] = some y3 := by rw [← hy3, ← g3]; show _ = DataW.trod enc Try.prog W base spare held n 3 (List.take (Try.prog.cellsOf 3) _); rw [q3]; rfl
  obtain ⟨b3, K3, w3⟩ := op_3 _ _ _ _ _ _ G3
  obtain rfl : c3 = .int .i64 b3 := hd_eq_of_cons K3
  have q4 : Try.prog.cellsOf 3 = 1 := by kernel_rfl
  have g4 := hf 4 _ rfl
  obtain ⟨y4, hy4⟩ : ∃ y, xs[4]? = some y := ⟨_, List.getElem?_eq_getElem (by rw [hxl]; decide)⟩
  have G4 : DataW.trod enc Try.prog W base spare held n 3 [c4] = some y4 := by rw [← hy4, ← g4]; show _ = DataW.trod enc Try.prog W base spare held n 3 (List.take (Try.prog.cellsOf 3) _); rw [q4]; rfl
  obtain ⟨b4, K4, w4⟩ := op_3 _ _ _ _ _ _ G4
  obtain rfl : c4 = .int .i64 b4 := hd_eq_of_cons K4
  have q5 : Try.prog.cellsOf 3 = 1 := by kernel_rfl
  have g5 := hf 5 _ rfl
  obtain ⟨y5, hy5⟩ : ∃ y, xs[5]? = some y := ⟨_, List.getElem?_eq_getElem (by rw [hxl]; decide)⟩
  have G5 : DataW.trod enc Try.prog W base spare held n 3 [c5] = some y5 := by rw [← hy5, ← g5]; show _ = DataW.trod enc Try.prog W base spare held n 3 (List.take (Try.prog.cellsOf 3) _); rw [q5]; rfl
  obtain ⟨b5, K5, w5⟩ := op_3 _ _ _ _ _ _ G5
  obtain rfl : c5 = .int .i64 b5 := hd_eq_of_cons K5
  have q6 : Try.prog.cellsOf 3 = 1 := by kernel_rfl
  have g6 := hf 6 _ rfl
  obtain ⟨y6, hy6⟩ : ∃ y, xs[6]? = some y := ⟨_, List.getElem?_eq_getElem (by rw [hxl]; decide)⟩
  have G6 : DataW.trod enc Try.prog W base spare held n 3 [c6] = some y6 := by rw [← hy6, ← g6]; show _ = DataW.trod enc Try.prog W base spare held n 3 (List.take (Try.prog.cellsOf 3) _); rw [q6]; rfl
  obtain ⟨b6, K6, w6⟩ := op_3 _ _ _ _ _ _ G6
  obtain rfl : c6 = .int .i64 b6 := hd_eq_of_cons K6
  have q7 : Try.prog.cellsOf 3 = 1 := by kernel_rfl
  have g7 := hf 7 _ rfl
  obtain ⟨y7, hy7⟩ : ∃ y, xs[7]? = some y := ⟨_, List.getElem?_eq_getElem (by rw [hxl]; decide)⟩
  have G7 : DataW.trod enc Try.prog W base spare held n 3 [c7] = some y7 := by rw [← hy7, ← g7]; show _ = DataW.trod enc Try.prog W base spare held n 3 (List.take (Try.prog.cellsOf 3) _); rw [q7]; rfl
  obtain ⟨b7, K7, w7⟩ := op_3 _ _ _ _ _ _ G7
  obtain rfl : c7 = .int .i64 b7 := hd_eq_of_cons K7
  exact ⟨⟨b0, b1, b2, b3, b4, b5, b6, b7⟩, k42_mk W ⟨b0, b1, b2, b3, b4, b5, b6, b7⟩ , ⟨w0, w1, w2, w3, w4, w5, w6, w7⟩⟩
theorem op_25 : Opens enc Try.prog W 25 (Kd.slice 42 k42) (fun x_ => x_.length ≤ maxLen ∧ ∀ y_ ∈ x_, wfS42 y_) := opens_slice Try.underlying25 (by kernel_rfl) op_42
def wfS87 (x : S87) : Prop := (x.f0.size ≤ maxLen) ∧ ((Lit.int .i64 x.f1).wf = true)
set_option maxRecDepth 100000 in
theorem op_87 : Opens enc Try.prog W 87 k87 wfS87 := by
  intro base spare held fuel cs x h
  obtain ⟨xs, n, _, _, hlen, hxl, hf⟩ := DataW.trod_struct Try.underlying87 h
  have hcl : Try.prog.cellsOf 87 = 2 := by kernel_rfl
  rw [hcl] at hlen
  obtain ⟨c0, c1, rfl⟩ : ∃ c0 c1, cs = [c0, c1] := by
    match cs, hlen with
    | [c0, c1], _ => exact ⟨c0, c1, rfl⟩
  have q0 : Try.prog.cellsOf 9 = 1 := by kernel_rfl
  have g0 := hf 0 _ rfl
  obtain ⟨y0, hy0⟩ : ∃ y, xs[0]? = some y := ⟨_, List.getElem?_eq_getElem (by rw [hxl]; decide)⟩
  have G0 : DataW.trod enc Try.prog W base spare held n 9 [c0] = some y0 := by rw [← hy0, ← g0]; show _ = DataW.trod enc Try.prog W base spare held n 9 (List.take (Try.prog.cellsOf 9) _); rw [q0]; rfl
  obtain ⟨b0, K0, w0⟩ := op_9 _ _ _ _ _ _ G0
  obtain rfl : c0 = .string b0 := hd_eq_of_cons K0
  have q1 : Try.prog.cellsOf 3 = 1 := by kernel_rfl
  have g1 := hf 1 _ rfl
  obtain ⟨y1, hy1⟩ : ∃ y, xs[1]? = some y := ⟨_, List.getElem?_eq_getElem (by rw [hxl]; decide)⟩
  have G1 : DataW.trod enc Try.prog W base spare held n 3 [c1] = some y1 := by rw [← hy1, ← g1]; show _ = DataW.trod enc Try.prog W base spare held n 3 (List.take (Try.prog.cellsOf 3) _); rw [q1]; rfl
  obtain ⟨b1, K1, w1⟩ := op_3 _ _ _ _ _ _ G1
  obtain rfl : c1 = .int .i64 b1 := hd_eq_of_cons K1
  exact ⟨⟨b0, b1⟩, k87_mk W ⟨b0, b1⟩ , ⟨w0, w1⟩⟩
theorem op_26 : Opens enc Try.prog W 26 (Kd.slice 87 k87) (fun x_ => x_.length ≤ maxLen ∧ ∀ y_ ∈ x_, wfS87 y_) := opens_slice Try.underlying26 (by kernel_rfl) op_87
def wfS28 (x : S28) : Prop := (x.f0.length ≤ maxLen ∧ ∀ x_ ∈ x.f0, wfS48 x_) ∧ (x.f1.length ≤ maxLen ∧ ∀ x_ ∈ x.f1, wfS62 x_) ∧ (x.f2.length ≤ maxLen ∧ ∀ x_ ∈ x.f2, wfS84 x_) ∧ (x.f3.length ≤ maxLen ∧ ∀ x_ ∈ x.f3, wfS42 x_) ∧ (x.f4.length ≤ maxLen ∧ ∀ x_ ∈ x.f4, wfS87 x_)
set_option maxRecDepth 100000 in
theorem op_28 : Opens enc Try.prog W 28 k28 wfS28 := by
  intro base spare held fuel cs x h
  obtain ⟨xs, n, _, _, hlen, hxl, hf⟩ := DataW.trod_struct Try.underlying28 h
  have hcl : Try.prog.cellsOf 28 = 5 := by kernel_rfl
  rw [hcl] at hlen
  obtain ⟨c0, c1, c2, c3, c4, rfl⟩ : ∃ c0 c1 c2 c3 c4, cs = [c0, c1, c2, c3, c4] := by
    match cs, hlen with
    | [c0, c1, c2, c3, c4], _ => exact ⟨c0, c1, c2, c3, c4, rfl⟩
  have q0 : Try.prog.cellsOf 22 = 1 := by kernel_rfl
  have g0 := hf 0 _ rfl
  obtain ⟨y0, hy0⟩ : ∃ y, xs[0]? = some y := ⟨_, List.getElem?_eq_getElem (by rw [hxl]; decide)⟩
  have G0 : DataW.trod enc Try.prog W base spare held n 22 [c0] = some y0 := by rw [← hy0, ← g0]; show _ = DataW.trod enc Try.prog W base spare held n 22 (List.take (Try.prog.cellsOf 22) _); rw [q0]; rfl
  obtain ⟨b0, K0, w0⟩ := op_22 _ _ _ _ _ _ G0
  obtain ⟨A0, e0, hs0, hl0, hC0⟩ := K0
  obtain rfl : c0 = .slice A0 b0.length e0 := hd_eq_of_cons hs0
  have q1 : Try.prog.cellsOf 23 = 1 := by kernel_rfl
  have g1 := hf 1 _ rfl
  obtain ⟨y1, hy1⟩ : ∃ y, xs[1]? = some y := ⟨_, List.getElem?_eq_getElem (by rw [hxl]; decide)⟩
  have G1 : DataW.trod enc Try.prog W base spare held n 23 [c1] = some y1 := by rw [← hy1, ← g1]; show _ = DataW.trod enc Try.prog W base spare held n 23 (List.take (Try.prog.cellsOf 23) _); rw [q1]; rfl
  obtain ⟨b1, K1, w1⟩ := op_23 _ _ _ _ _ _ G1
  obtain ⟨A1, e1, hs1, hl1, hC1⟩ := K1
  obtain rfl : c1 = .slice A1 b1.length e1 := hd_eq_of_cons hs1
  have q2 : Try.prog.cellsOf 24 = 1 := by kernel_rfl
  have g2 := hf 2 _ rfl
  obtain ⟨y2, hy2⟩ : ∃ y, xs[2]? = some y := ⟨_, List.getElem?_eq_getElem (by rw [hxl]; decide)⟩
  have G2 : DataW.trod enc Try.prog W base spare held n 24 [c2] = some y2 := by rw [← hy2, ← g2]; show _ = DataW.trod enc Try.prog W base spare held n 24 (List.take (Try.prog.cellsOf 24) _); rw [q2]; rfl
  obtain ⟨b2, K2, w2⟩ := op_24 _ _ _ _ _ _ G2
  obtain ⟨A2, e2, hs2, hl2, hC2⟩ := K2
  obtain rfl : c2 = .slice A2 b2.length e2 := hd_eq_of_cons hs2
  have q3 : Try.prog.cellsOf 25 = 1 := by kernel_rfl
  have g3 := hf 3 _ rfl
  obtain ⟨y3, hy3⟩ : ∃ y, xs[3]? = some y := ⟨_, List.getElem?_eq_getElem (by rw [hxl]; decide)⟩
  have G3 : DataW.trod enc Try.prog W base spare held n 25 [c3] = some y3 := by rw [← hy3, ← g3]; show _ = DataW.trod enc Try.prog W base spare held n 25 (List.take (Try.prog.cellsOf 25) _); rw [q3]; rfl
  obtain ⟨b3, K3, w3⟩ := op_25 _ _ _ _ _ _ G3
  obtain ⟨A3, e3, hs3, hl3, hC3⟩ := K3
  obtain rfl : c3 = .slice A3 b3.length e3 := hd_eq_of_cons hs3
  have q4 : Try.prog.cellsOf 26 = 1 := by kernel_rfl
  have g4 := hf 4 _ rfl
  obtain ⟨y4, hy4⟩ : ∃ y, xs[4]? = some y := ⟨_, List.getElem?_eq_getElem (by rw [hxl]; decide)⟩
  have G4 : DataW.trod enc Try.prog W base spare held n 26 [c4] = some y4 := by rw [← hy4, ← g4]; show _ = DataW.trod enc Try.prog W base spare held n 26 (List.take (Try.prog.cellsOf 26) _); rw [q4]; rfl
  obtain ⟨b4, K4, w4⟩ := op_26 _ _ _ _ _ _ G4
  obtain ⟨A4, e4, hs4, hl4, hC4⟩ := K4
  obtain rfl : c4 = .slice A4 b4.length e4 := hd_eq_of_cons hs4
  exact ⟨⟨b0, b1, b2, b3, b4⟩, k28_mk W ⟨b0, b1, b2, b3, b4⟩ hl0 hC0 hl1 hC1 hl2 hC2 hl3 hC3 hl4 hC4, ⟨w0, w1, w2, w3, w4⟩⟩
theorem op_29 : Opens enc Try.prog W 29 (Kd.slice 3 (Kd.int .i64)) (fun x_ => x_.length ≤ maxLen ∧ ∀ y_ ∈ x_, (Lit.int .i64 y_).wf = true) := opens_slice Try.underlying29 (by kernel_rfl) op_3
theorem op_5 : Opens enc Try.prog W 5 (Kd.int .u8) (fun x_ => (Lit.int .u8 x_).wf = true) := opens_int Try.underlying5
theorem op_51 : Opens enc Try.prog W 51 (Kd.slice 5 (Kd.int .u8)) (fun x_ => x_.length ≤ maxLen ∧ ∀ y_ ∈ x_, (Lit.int .u8 y_).wf = true) := opens_slice Try.underlying51 (by kernel_rfl) op_5
end
end Go.Proofs.Ytpdmnineampimaa.Q
namespace Go.Proofs.Ytpdmnineampimaa.Q
open Go.RowKit Go.Proofs.YtpdmnineampimaaW.PrintWords Go.Proofs.YtpdmnineampimaaW.PrintLast Go.Proofs.YtpdmnineampimaaW.PrintMore
attribute [local go_sem] max2_int min2_int max_two min_two max_three min_three max_four min_four
structure Turns (T : Nat → Prop) (W W' : World) : Prop where
  os : W'.os = W.os
  tape : W'.tape = W.tape
  output : W'.output = W.output
  size : W.heap.size ≤ W'.heap.size
  block : ∀ k, k < W.heap.size → ¬ T k → W'.heap[k]? = W.heap[k]?
theorem Turns.refl (T : Nat → Prop) (W : World) : Turns T W W := ⟨rfl, rfl, rfl, Nat.le_refl _, fun _ _ _ => rfl⟩
theorem Turns.trans {T : Nat → Prop} {A B C : World} (h : Turns T A B) (k : Turns T B C) : Turns T A C :=
  ⟨k.os.trans h.os, k.tape.trans h.tape, k.output.trans h.output, Nat.le_trans h.size k.size, fun i hi hn => (k.block i (Nat.lt_of_lt_of_le hi h.size) hn).trans (h.block i hi hn)⟩
theorem Turns.mono {T T' : Nat → Prop} {A B : World} (h : Turns T A B) (hT : ∀ k, T k → T' k) : Turns T' A B :=
  ⟨h.os, h.tape, h.output, h.size, fun i hi hn => h.block i hi (fun ht => hn (hT i ht))⟩
theorem Turns.alloc (T : Nat → Prop) (W : World) (o : Obj) : Turns T W (W.alloc o) := ⟨rfl, rfl, rfl, by simp, fun k hk _ => Below.heap_alloc _ _ _ hk⟩
theorem Turns.drew (T : Nat → Prop) (W : World) : Turns T W W.drew := ⟨rfl, rfl, rfl, Nat.le_refl _, fun _ _ _ => rfl⟩
theorem Turns.putObj (T : Nat → Prop) (W : World) (l : Nat) (o : Obj) (hl : T l) : Turns T W (W.putObj l o) :=
  ⟨rfl, rfl, rfl, by simp, fun k _ hn => World.putObj_heap_other (fun e => hn (e ▸ hl))⟩
theorem Turns.setCell (T : Nat → Prop) (W : World) (a : Addr) (v : Value) (hl : T a.block) : Turns T W (W.setCell a v) :=
  ⟨rfl, rfl, rfl, by simp [World.setCell], fun k _ hn => Below.heap_setCell _ _ _ _ (fun e => hn (e ▸ hl))⟩
theorem Turns.of_below {W W' : World} (T : Nat → Prop) (h : Below W.heap.size W W') : Turns T W W' := ⟨h.os, h.tape, h.output, h.size, fun k hk _ => h.block k hk⟩
theorem Turns.below {T : Nat → Prop} {B : Nat} {W0 W W' : World} (h : Turns T W W') (hb : Below B W0 W) (hB : B ≤ W.heap.size) (hT : ∀ k, T k → B ≤ k) : Below B W0 W' :=
  hb.trans ⟨h.os, h.tape, h.output, h.size, fun k hk => h.block k (by omega) (fun ht => by have := hT k ht; omega)⟩
def IterC {α : Type} (P : Program) (gf : Nat) (lb : Array Value) (encs : α → Array Value) (xs : List α) (T R : Nat → Prop) (w : World) : Prop :=
  ∀ (l : Nat) (J Jx : Nat → World → Prop) (W : World), Turns (fun _ => False) w W →
    (∀ i W W', J i W → Turns (fun k => T k ∧ k < w.heap.size) W W' → J i W') → (∀ i W W', Jx i W → Turns (fun k => T k ∧ k < w.heap.size) W W' → Jx i W') →
    (∀ i (hi : i < xs.length) W1, J i W1 → YieldAt Fence.wide 0 P l (encs xs[i]) W1 fun e W' =>
      (e = .returned (.bool true) ∧ J (i + 1) W' ∧ Turns (fun k => ¬ R k) W1 W') ∨ (e = .returned (.bool false) ∧ Jx (i + 1) W')) →
    J 0 W →
    CallsIn Fence.wide 0 P gf (#[.func (.yield l) #[] #[]] ++ lb) W fun e W' => (∃ v, e = .returned v) ∧ (J xs.length W' ∨ ∃ i, i ≤ xs.length ∧ Jx i W')
def rgPost (R : Nat → Prop) (D : Nat) (I : Nat → World → Prop) (Ix : Code → Nat → World → Prop) (i : Nat) (W : World) : Exit → Act → World → Prop
  | .normal, _, W' => Turns (fun k => ¬ (R k ∨ k = D ∨ k = D + 1)) W W' ∧ I (i + 1) W'
  | .ret, _, W' => Turns (fun k => ¬ (k = D ∨ k = D + 1)) W W' ∧ Ix .ret (i + 1) W'
  | .exit id, _, W' => Turns (fun k => ¬ (k = D ∨ k = D + 1)) W W' ∧ Ix (.exit id) (i + 1) W'
  | .goto t, _, W' => Turns (fun k => ¬ (k = D ∨ k = D + 1)) W W' ∧ Ix (.goto t) (i + 1) W'
  | .panic _, _, _ => False
  | .outgrown, _, _ => False
theorem wp_rangeFunc_iter {P : Program} {α : Type} {g : Operand} {ps : Array Tmp} {assign body : Code} {Q : Exit → Act → World → Prop} {a : Act} {w : World}
    {gf : Nat} {lb : Array Value} (hg : a.eval g = .func (.func gf) #[] lb) (eg : ∀ args w, (callFunc gf args).run P w = .ok (.enter gf args) w)
    {encs : α → Array Value} {xs : List α} {T R : Nat → Prop} (hR : ∀ k, R k → k < w.heap.size) (hseq : IterC P gf lb encs xs T R w) (hps : ∀ x, (encs x).size = ps.size)
    (I : Nat → World → Prop) (Ix : Code → Nat → World → Prop)
    (hI : ∀ i W W', I i W → Turns (fun k => (T k ∧ k < w.heap.size) ∨ k = w.heap.size ∨ k = w.heap.size + 1) W W' → I i W')
    (hIx : ∀ c i W W', Ix c i W → Turns (fun k => (T k ∧ k < w.heap.size) ∨ k = w.heap.size ∨ k = w.heap.size + 1) W W' → Ix c i W') (h0 : I 0 w)
    (A : Nat → Act → World → Prop) (hA : ∀ i a1 W W', A i a1 W → Turns (fun k => k = w.heap.size + 1) W W' → A i a1 W')
    (hassign : ∀ (l i : Nat) (hi : i < xs.length) (W : World), I i W → w.heap.size + 1 < W.heap.size →
      ∀ K : Act → World → Prop, (∀ a1 W1, A i a1 W1 → Turns (fun k => ¬ (R k ∨ k = w.heap.size ∨ k = w.heap.size + 1)) W W1 → K a1 W1) → assign.wpIn (Fence.wide.inRound l) 0 P (Exit.then K (fun _ _ _ => False)) { tmps := (ps.zip (encs xs[i])).foldl (fun t (p, v) => t.setIfInBounds p v) a.tmps, defers := [] } W)
    (hbody : ∀ (l i : Nat) (_ : i < xs.length) (a1 : Act) (W : World), A i a1 W → w.heap.size + 1 < W.heap.size → body.wpIn (Fence.wide.inRound l) 0 P (rgPost R w.heap.size I Ix i W) a1 W)
    (hdone : ∀ (W : World), I xs.length W → W.heap[w.heap.size]? = some (.deferred (some [])) → Q .normal { a with defers := { target := .collected w.heap.size, args := #[] } :: a.defers } W)
    (hstop : ∀ (c : Code) (i : Nat) (W : World), i ≤ xs.length → Ix c i W → W.heap[w.heap.size]? = some (.deferred (some [])) → c.wpIn Fence.wide 0 P Q { a with defers := { target := .collected w.heap.size, args := #[] } :: a.defers } W) :
    (Code.rangeFunc g ps assign body).wpIn Fence.wide 0 P Q a w := by
  refine wpIn_rangeFunc ?_
  intro fn hfn
  obtain ⟨rec, hrec⟩ : ∃ rec : LoopState → Option Code → Loop, rec = fun st pe => { state := st, pending := pe, fn, tmps := a.tmps, params := ps, assign, body, defers := w.heap.size } := ⟨_, rfl⟩
  obtain ⟨W1, hW1⟩ : ∃ W1, (w.alloc (.deferred (some []))).alloc (.loop (rec .ready none)) = W1 := ⟨_, rfl⟩
  have hL1 : W1.heap[w.heap.size + 1]? = some (.loop (rec .ready none)) := by
    rw [← hW1]; have := World.alloc_heap_new (w.alloc (.deferred (some []))) (.loop (rec .ready none)); rwa [World.size_alloc] at this
  have hK1 : W1.heap[w.heap.size]? = some (.deferred (some [])) := by
    rw [← hW1]; exact (Below.heap_alloc _ _ _ (by simp)).trans (World.alloc_heap_new w _)
  have hT0 : ∀ T' : Nat → Prop, Turns T' w W1 := fun T' => by rw [← hW1]; exact (Turns.alloc _ _ _).trans (Turns.alloc _ _ _)
  have hI1 : I 0 W1 := hI _ _ _ h0 (hT0 _)
  have keepB : ∀ {A B : World} {o : Obj} {k : Nat}, Turns (fun k => T k ∧ k < w.heap.size) A B → w.heap.size ≤ k → A.heap[k]? = some o → B.heap[k]? = some o := fun ht hk ho =>
    (ht.block _ (Array.getElem?_eq_some_iff.1 ho).1 (fun h => by have := h.2; omega)).trans ho
  refine ⟨w.heap.size + 1, [{ target := .collected w.heap.size, args := #[] }], W1, { target := .fn (.func gf) lb, args := #[.func (.yield (w.heap.size + 1)) #[] #[]] }, W1, gf,
    #[.func (.yield (w.heap.size + 1)) #[] #[]] ++ lb, W1, ?_, ?_, ?_, ?_, (fun h => by cases h), ?_⟩
  · rw [← hW1, hrec]; exact run_enterLoop_outer _ _ _ _ _
  · simp only [resolve, hg]
    simp [go_sem]
  · intro f' _; trivial
  · simp [invoke, go_sem, eg]
  · refine (hseq (w.heap.size + 1)
      (fun i W => I i W ∧ W.heap[w.heap.size + 1]? = some (.loop (rec .ready none)) ∧ W.heap[w.heap.size]? = some (.deferred (some [])))
      (fun i W => ∃ c, Ix c i W ∧ W.heap[w.heap.size + 1]? = some (.loop (rec .done (some c))) ∧ W.heap[w.heap.size]? = some (.deferred (some [])))
      W1 (hT0 _)
      (fun i A B hs ht => ⟨hI i A B hs.1 (ht.mono (fun k h => .inl h)), keepB ht (by omega) hs.2.1, keepB ht (Nat.le_refl _) hs.2.2⟩)
      (fun i A B hs ht => by
        obtain ⟨c, hc, hl, hk⟩ := hs
        exact ⟨c, hIx c i A B hc (ht.mono (fun k h => .inl h)), keepB ht (by omega) hl, keepB ht (Nat.le_refl _) hk⟩)
      ?_ ⟨hI1, hL1, hK1⟩).mono ?_
    ·
      rintro i hi W ⟨hii, hl, hk⟩
      have hlt : w.heap.size + 1 < W.heap.size := (Array.getElem?_eq_some_iff.1 hl).1
      have hy := run_yield (P := P) (args := encs xs[i]) hl (by rw [hrec]; exact hps _)
      rw [hrec] at hy
      refine ⟨fn, _, assign, body, hy, roundIn_of_wpIn hfn (wpIn_mono (hassign _ i hi W hii hlt (fun a1 W1 => A i a1 W1 ∧ Turns (fun k => ¬ (R k ∨ k = w.heap.size ∨ k = w.heap.size + 1)) W W1) (fun _ _ h1 h2 => ⟨h1, h2⟩)) ?_)⟩
      rintro e a1 W2 hp
      cases e with
      | normal =>
        obtain ⟨hAA, ht2⟩ := hp
        have kp : ∀ {A B : World} {o : Obj} {k : Nat}, Turns (fun k => ¬ (R k ∨ k = w.heap.size ∨ k = w.heap.size + 1)) A B → (k = w.heap.size ∨ k = w.heap.size + 1) → A.heap[k]? = some o → B.heap[k]? = some o := fun ht hk ho =>
          (ht.block _ (Array.getElem?_eq_some_iff.1 ho).1 (fun h => h (.inr hk))).trans ho
        have hl2 := kp ht2 (.inr rfl) hl
        have hk2 := kp ht2 (.inl rfl) hk
        have hlt2 : w.heap.size + 1 < W2.heap.size := (Array.getElem?_eq_some_iff.1 hl2).1
        refine ⟨_, run_beginRound hl2 (by rw [hrec]), ?_⟩
        obtain ⟨W3, hW3⟩ : ∃ W3, W2.putObj (w.heap.size + 1) (.loop { rec .ready none with state := .busy }) = W3 := ⟨_, rfl⟩
        have hl3 : W3.heap[w.heap.size + 1]? = some (.loop { rec .ready none with state := .busy }) := by rw [← hW3]; exact World.putObj_heap_same hlt2
        have hk3 : W3.heap[w.heap.size]? = some (.deferred (some [])) := by rw [← hW3]; exact (World.putObj_heap_other (by omega)).trans hk2
        have ht3 : Turns (fun k => k = w.heap.size + 1) W2 W3 := by rw [← hW3]; exact Turns.putObj _ _ _ _ rfl
        have hW3' : W2.putObj (w.heap.size + 1) (.loop { rec .ready none with state := .busy }) = W3 := hW3
        rw [hW3']
        have hlt3 : w.heap.size + 1 < W3.heap.size := (Array.getElem?_eq_some_iff.1 hl3).1
        refine wpIn_mono (hbody _ i hi a1 W3 (hA _ _ _ _ hAA ht3) hlt3) ?_
        have fin : ∀ (jump : Option Code) (W4 : World), W4.heap[w.heap.size + 1]? = some (.loop { rec .ready none with state := .busy }) → W4.heap[w.heap.size]? = some (.deferred (some [])) →
            (Instr.endRound (w.heap.size + 1) jump).run P W4 = .ok (.bool jump.isNone) (W4.putObj (w.heap.size + 1) (.loop (rec (if jump.isNone then .ready else .done) jump))) ∧
            (W4.putObj (w.heap.size + 1) (.loop (rec (if jump.isNone then .ready else .done) jump))).heap[w.heap.size + 1]? = some (.loop (rec (if jump.isNone then .ready else .done) jump)) ∧
            (W4.putObj (w.heap.size + 1) (.loop (rec (if jump.isNone then .ready else .done) jump))).heap[w.heap.size]? = some (.deferred (some [])) := fun jump W4 hl4 hk4 => by
          have := run_endRound (P := P) jump hl4
          rw [hrec] at this ⊢
          exact ⟨this, World.putObj_heap_same (Array.getElem?_eq_some_iff.1 hl4).1, (World.putObj_heap_other (by omega)).trans hk4⟩
        have kq : ∀ {A B : World} {o : Obj} {k : Nat}, Turns (fun k => ¬ (k = w.heap.size ∨ k = w.heap.size + 1)) A B → (k = w.heap.size ∨ k = w.heap.size + 1) → A.heap[k]? = some o → B.heap[k]? = some o := fun ht hk ho =>
          (ht.block _ (Array.getElem?_eq_some_iff.1 ho).1 (fun h => h hk)).trans ho
        have hTl : ∀ (W4 : World) (o : Obj), Turns (fun k => (T k ∧ k < w.heap.size) ∨ k = w.heap.size ∨ k = w.heap.size + 1) W4 (W4.putObj (w.heap.size + 1) o) := fun W4 o => Turns.putObj _ _ _ _ (.inr (.inr rfl))
        rintro e a4 W4 hp
        cases e with
        | normal =>
          obtain ⟨ht4, hi4⟩ := hp
          obtain ⟨hr, hl5, hk5⟩ := fin none W4 (kp ht4 (.inr rfl) hl3) (kp ht4 (.inl rfl) hk3)
          refine ⟨_, _, hr, .inl ⟨rfl, ⟨hI _ _ _ hi4 (hTl _ _), hl5, hk5⟩, ?_⟩⟩
          have r1 : Turns (fun k => ¬ R k) W W2 := ht2.mono (fun k h h' => h (.inl h'))
          have r2 : Turns (fun k => ¬ R k) W2 W3 := ht3.mono (fun k h h' => by have := hR k h'; omega)
          have r3 : Turns (fun k => ¬ R k) W3 W4 := ht4.mono (fun k h h' => h (.inl h'))
          exact ((r1.trans r2).trans r3).trans (Turns.putObj _ _ _ _ (fun h' => by have := hR _ h'; omega))
        | ret =>
          obtain ⟨ht4, hi4⟩ := hp
          obtain ⟨hr, hl5, hk5⟩ := fin (some .ret) W4 (kq ht4 (.inr rfl) hl3) (kq ht4 (.inl rfl) hk3)
          exact ⟨_, _, hr, .inr ⟨rfl, .ret, hIx _ _ _ _ hi4 (hTl _ _), hl5, hk5⟩⟩
        | exit id =>
          obtain ⟨ht4, hi4⟩ := hp
          obtain ⟨hr, hl5, hk5⟩ := fin (some (.exit id)) W4 (kq ht4 (.inr rfl) hl3) (kq ht4 (.inl rfl) hk3)
          exact ⟨_, _, hr, .inr ⟨rfl, .exit id, hIx _ _ _ _ hi4 (hTl _ _), hl5, hk5⟩⟩
        | goto t =>
          obtain ⟨ht4, hi4⟩ := hp
          obtain ⟨hr, hl5, hk5⟩ := fin (some (.goto t)) W4 (kq ht4 (.inr rfl) hl3) (kq ht4 (.inl rfl) hk3)
          exact ⟨_, _, hr, .inr ⟨rfl, .goto t, hIx _ _ _ _ hi4 (hTl _ _), hl5, hk5⟩⟩
        | panic ch => exact hp.elim
        | outgrown => exact hp.elim
      | exit id => exact hp.elim
      | goto t => exact hp.elim
      | ret => exact hp.elim
      | panic ch => exact hp.elim
      | outgrown => exact hp.elim
    ·
      have hTl : ∀ (W4 : World) (o : Obj), Turns (fun k => (T k ∧ k < w.heap.size) ∨ k = w.heap.size ∨ k = w.heap.size + 1) W4 (W4.putObj (w.heap.size + 1) o) := fun W4 o => Turns.putObj _ _ _ _ (.inr (.inr rfl))
      rintro e W2 ⟨⟨v, rfl⟩, (⟨hi, hl, hk⟩ | ⟨i, hle, c, hi, hl, hk⟩)⟩
      · exact ⟨none, _, by have := run_endLoop (P := P) hl (by rw [hrec]; simp); rw [hrec] at this; exact this, hdone _ (hI _ _ _ hi (hTl _ _)) ((World.putObj_heap_other (by omega)).trans hk)⟩
      · exact ⟨some c, _, by have := run_endLoop (P := P) hl (by rw [hrec]; simp); rw [hrec] at this; exact this, hstop c i _ hle (hIx c _ _ _ hi (hTl _ _)) ((World.putObj_heap_other (by omega)).trans hk)⟩
end Go.Proofs.Ytpdmnineampimaa.Q
namespace Go.Proofs.Ytpdmnineampimaa.Q
open Go.RowKit Go.Proofs.YtpdmnineampimaaW.PrintWords Go.Proofs.YtpdmnineampimaaW.PrintLast Go.Proofs.YtpdmnineampimaaW.PrintMore
attribute [local go_sem] max2_int min2_int max_two min_two max_three min_three max_four min_four
theorem hb_wrap64 (x : Int) (h0 : -9223372036854775808 ≤ x) (h1 : x ≤ 9223372036854775807) : wrap64 x = x := by
  unfold wrap64; omega
theorem wf_u8 {a : Int} (h : (Lit.int .u8 a).wf = true) : 0 ≤ a ∧ a ≤ 255 := by
  simpa [Lit.wf, IntKind.min, IntKind.max, IntKind.signed, IntKind.bits] using h
theorem hb_cells {W w1 : World} (hb : Below W.heap.size W w1) : (∀ b o, b < W.heap.size → w1.cell? ⟨b, o, none⟩ = W.cell? ⟨b, o, none⟩) ∧ (∀ b o, b < W.heap.size → w1.frozen? ⟨b, o, none⟩ = W.frozen? ⟨b, o, none⟩) :=
  ⟨fun b o h => hb.cell (p := ⟨b, o, none⟩) h, fun b o h => hb.frozen (p := ⟨b, o, none⟩) h⟩
end Go.Proofs.Ytpdmnineampimaa.Q
namespace Go.Proofs.Ytpdmnineampimaa.Q
open Go.RowKit Go.Proofs.YtpdmnineampimaaW.PrintWords Go.Proofs.YtpdmnineampimaaW.PrintLast Go.Proofs.YtpdmnineampimaaW.PrintMore
attribute [local go_sem] max2_int min2_int max_two min_two max_three min_three max_four min_four
def SeenS (P : Program) (kt bt : TypeId) (w : World) (g n : Nat) (seen : List (List UInt8)) : Prop :=
  ∃ D : DataW Unit, w.ownsMap P kt (plainElem P bt) g n D ∧ ∀ s : List UInt8, D.atKey (.string s) (.lit (.bool false)) = .lit (.bool (decide (s ∈ seen)))
theorem plainElem_bool_inv {P : Program} {bt : TypeId} (hb : P.underlying bt = some .bool) {v : Value} {b : Bool} {ps : List MemPlace} (h : plainElem (H := Unit) P bt v = some (.lit (.bool b), ps)) : v = .bool b := by
  cases v <;> simp [plainElem, hb] at h
  rw [h.1]
theorem SeenS.look {P : Program} {t kt bt : TypeId} {w : World} {g n : Nat} {seen : List (List UInt8)} (h : SeenS P kt bt w g n seen) (ht : P.underlying t = some (.map kt bt)) (hk : P.underlying kt = some .string) (hb : P.underlying bt = some .bool)
    (hz : (zeroValue bt).run P w = .ok (.bool false) w) (a : ByteArray) (ha : a.size ≤ maxLen) : (Instr.lookup t (.map (some g)) (.string a) false).run P w = .ok (.bool (decide (a.data.toList ∈ seen))) w := by
  obtain ⟨D, hD, hS⟩ := h
  obtain ⟨v, ps, hrun, hv⟩ := hD.lookup (Maps.string_keyed hk) ht hz (plainElem_bool hb false) (key := .string a) (kl := .string a.data.toList) (by simp [keyOf, hk, mapKey, ha])
  rw [hS] at hv
  rw [hrun, plainElem_bool_inv hb hv]
theorem SeenS.put {P : Program} {t kt bt : TypeId} {w : World} {g n : Nat} {seen : List (List UInt8)} (h : SeenS P kt bt w g n seen) (ht : P.underlying t = some (.map kt bt)) (hk : P.underlying kt = some .string) (hb : P.underlying bt = some .bool)
    (hn : n < maxLen) (a : ByteArray) (ha : a.size ≤ maxLen) : ∃ w', (Instr.mapUpdate t (.map (some g)) (.string a) (.bool true)).run P w = .ok () w' ∧ SeenS P kt bt w' g (n + 1) (a.data.toList :: seen) ∧ w.grownBy w' (some g) := by
  obtain ⟨D, hD, hS⟩ := h
  obtain ⟨w', hrun, hD', hgr⟩ := hD.update (Maps.string_keyed hk) ht hn (key := .string a) (kl := .string a.data.toList) (by simp [keyOf, hk, mapKey, ha]) (plainElem_bool hb true)
  refine ⟨w', hrun, ⟨_, hD', fun s => ?_⟩, hgr⟩
  by_cases e : s = a.data.toList
  · subst e
    rw [Maps.atKey_put_same hD.isMap (by simp [WideAt.IsKeyLit])]
    simp
  · rw [Maps.atKey_put_other (by intro q; cases q; exact e rfl), hS]
    simp [e]
theorem SeenS.kept {P : Program} {kt bt : TypeId} {w w' : World} {g n : Nat} {row : Option Nat} {seen : List (List UInt8)} (h : SeenS P kt bt w g n seen) (hg : w.grownBy w' row) (hne : some g ≠ row) : SeenS P kt bt w' g n seen := by
  obtain ⟨D, hD, hS⟩ := h
  exact ⟨D, hD.kept hg hne, hS⟩
theorem SeenS.made (P : Program) (kt bt : TypeId) (w : World) : SeenS P kt bt (w.alloc (.map #[] 0)) w.heap.size 0 [] :=
  ⟨_, World.ownsMap_made w P kt _, fun s => by simp [DataW.atKey]⟩
def SeenI (P : Program) (kt bt : TypeId) (w : World) (g n : Nat) (seen : List Int) : Prop :=
  ∃ D : DataW Unit, w.ownsMap P kt (plainElem P bt) g n D ∧ ∀ a : Int, D.atKey (.int .i64 a) (.lit (.bool false)) = .lit (.bool (decide (a ∈ seen)))
theorem SeenI.look {P : Program} {t kt bt : TypeId} {w : World} {g n : Nat} {seen : List Int} (h : SeenI P kt bt w g n seen) (ht : P.underlying t = some (.map kt bt)) (hk : P.underlying kt = some (.int .i64)) (hb : P.underlying bt = some .bool)
    (hz : (zeroValue bt).run P w = .ok (.bool false) w) (a : Int) (ha : (Lit.int .i64 a).wf = true) : (Instr.lookup t (.map (some g)) (.int .i64 a) false).run P w = .ok (.bool (decide (a ∈ seen))) w := by
  obtain ⟨D, hD, hS⟩ := h
  obtain ⟨v, ps, hrun, hv⟩ := hD.lookup (Maps.int_keyed hk) ht hz (plainElem_bool hb false) (key := .int .i64 a) (kl := .int .i64 a) (by simp [keyOf, hk, mapKey, ha])
  rw [hS] at hv
  rw [hrun, plainElem_bool_inv hb hv]
theorem SeenI.put {P : Program} {t kt bt : TypeId} {w : World} {g n : Nat} {seen : List Int} (h : SeenI P kt bt w g n seen) (ht : P.underlying t = some (.map kt bt)) (hk : P.underlying kt = some (.int .i64)) (hb : P.underlying bt = some .bool)
    (hn : n < maxLen) (a : Int) (ha : (Lit.int .i64 a).wf = true) : ∃ w', (Instr.mapUpdate t (.map (some g)) (.int .i64 a) (.bool true)).run P w = .ok () w' ∧ SeenI P kt bt w' g (n + 1) (a :: seen) ∧ w.grownBy w' (some g) := by
  obtain ⟨D, hD, hS⟩ := h
  obtain ⟨w', hrun, hD', hgr⟩ := hD.update (Maps.int_keyed hk) ht hn (key := .int .i64 a) (kl := .int .i64 a) (by simp [keyOf, hk, mapKey, ha]) (plainElem_bool hb true)
  refine ⟨w', hrun, ⟨_, hD', fun s => ?_⟩, hgr⟩
  by_cases e : s = a
  · subst e
    rw [Maps.atKey_put_same hD.isMap (by simp [WideAt.IsKeyLit])]
    simp
  · rw [Maps.atKey_put_other (by intro q; cases q; exact e rfl), hS]
    simp [e]
theorem SeenI.kept {P : Program} {kt bt : TypeId} {w w' : World} {g n : Nat} {row : Option Nat} {seen : List Int} (h : SeenI P kt bt w g n seen) (hg : w.grownBy w' row) (hne : some g ≠ row) : SeenI P kt bt w' g n seen := by
  obtain ⟨D, hD, hS⟩ := h
  exact ⟨D, hD.kept hg hne, hS⟩
theorem SeenI.made (P : Program) (kt bt : TypeId) (w : World) : SeenI P kt bt (w.alloc (.map #[] 0)) w.heap.size 0 [] :=
  ⟨_, World.ownsMap_made w P kt _, fun s => by simp [DataW.atKey]⟩
end Go.Proofs.Ytpdmnineampimaa.Q
namespace Go.Proofs.Ytpdmnineampimaa.Q
open Go.RowKit Go.Proofs.YtpdmnineampimaaW.PrintWords Go.Proofs.YtpdmnineampimaaW.PrintLast Go.Proofs.YtpdmnineampimaaW.PrintMore
attribute [local go_sem] max2_int min2_int max_two min_two max_three min_three max_four min_four
theorem eqA44 (d : Nat) (w : World) (x0 y0 : Int) (x1 y1 : Int) :
    (Op.equalIn (d + 2) 44 (.agg #[.int .i64 x0, .int .i64 x1]) (.agg #[.int .i64 y0, .int .i64 y1])).run Try.prog w = .ok (x0 == y0 && (x1 == y1)) w := by
  refine eqA_of Try.underlying44 (by kernel_rfl) ?_
  refine eqf_cons (by rfl) (by go_simp; rfl) (by go_simp; rfl) (by go_simp) ?_
  exact eqf_last (by rfl) (by go_simp; rfl) (by go_simp; rfl) (by go_simp)
end Go.Proofs.Ytpdmnineampimaa.Q
namespace Go.Proofs.Ytpdmnineampimaa.Q
open Go.RowKit Go.Proofs.YtpdmnineampimaaW.PrintWords Go.Proofs.YtpdmnineampimaaW.PrintLast Go.Proofs.YtpdmnineampimaaW.PrintMore
attribute [local go_sem] max2_int min2_int max_two min_two max_three min_three max_four min_four
theorem eqA46 (d : Nat) (w : World) (x0 y0 : Int) (x1 y1 : Int) (x2 y2 : Int) (x3 y3 : Int) (x4 y4 : Int) :
    (Op.equalIn (d + 2) 46 (.agg #[.int .i64 x0, .int .i64 x1, .int .i64 x2, .int .i64 x3, .int .i64 x4]) (.agg #[.int .i64 y0, .int .i64 y1, .int .i64 y2, .int .i64 y3, .int .i64 y4])).run Try.prog w = .ok (x0 == y0 && (x1 == y1 && (x2 == y2 && (x3 == y3 && (x4 == y4))))) w := by
  refine eqA_of Try.underlying46 (by kernel_rfl) ?_
  refine eqf_cons (by rfl) (by go_simp; rfl) (by go_simp; rfl) (by go_simp) ?_
  refine eqf_cons (by rfl) (by go_simp; rfl) (by go_simp; rfl) (by go_simp) ?_
  refine eqf_cons (by rfl) (by go_simp; rfl) (by go_simp; rfl) (by go_simp) ?_
  refine eqf_cons (by rfl) (by go_simp; rfl) (by go_simp; rfl) (by go_simp) ?_
  exact eqf_last (by rfl) (by go_simp; rfl) (by go_simp; rfl) (by go_simp)
end Go.Proofs.Ytpdmnineampimaa.Q
namespace Go.Proofs.Ytpdmnineampimaa.Q
open Go.RowKit Go.Proofs.YtpdmnineampimaaW.PrintWords Go.Proofs.YtpdmnineampimaaW.PrintLast Go.Proofs.YtpdmnineampimaaW.PrintMore
attribute [local go_sem] max2_int min2_int max_two min_two max_three min_three max_four min_four
section
variable {F : Fence} {n : Nat} {P : Program} {ops : Array Oper} {Q : Exit → Act → World → Prop} {md : Region.Mode}
theorem uponIn_unround {o : Oper} {a : Act} {K : Act → World → Prop} (r : Result Next) :
    o.uponIn { F with round := none } n P a K Q r = o.uponIn F n P a K Q r := rfl
theorem wpOpIn_unround (hnd : ∀ (j : Nat) (o : Oper) c, ops[j]? = some o → o.op ≠ .defer c) {i : Nat} {K : Act → World → Prop} {a : Act} {w : World}
    (h : wpOpIn { F with round := none } n P ops Q i K a w) : wpOpIn F n P ops Q i K a w := by
  unfold wpOpIn at *
  split
  · rename_i ho; simp only [ho] at h; exact h
  · rename_i o ho
    simp only [ho] at h
    split
    · rename_i hw
      simp only [hw, if_true] at h
      unfold Oper.wpIn at *
      refine ⟨h.1, ?_⟩
      have h2 := h.2
      rw [uponIn_unround] at h2
      rw [Oper.semAt_eq _ _ _ (fun c => hnd i o c ho)] at h2 ⊢
      exact h2
    · rename_i hw
      simp only [hw] at h
      exact h
theorem wpAnyIn_unround (hnd : ∀ (j : Nat) (o : Oper) c, ops[j]? = some o → o.op ≠ .defer c) :
    ∀ (fuel : Nat) (listed : Array Bool) (a : Act) (w : World), wpAnyIn { F with round := none } n P md ops Q fuel listed a w → wpAnyIn F n P md ops Q fuel listed a w := by
  intro fuel
  induction fuel with
  | zero => intro listed a w h; exact h
  | succ fuel ih =>
    intro listed a w h
    exact ⟨h.1, fun i hi => wpOpIn_mono (fun a w hh => ih _ a w hh) (wpOpIn_unround hnd (h.2 i hi))⟩
def noDefer (ops : Array Oper) : Bool := ops.toList.all fun o => match o.op with | .defer _ => false | _ => true
theorem noDefer_spec (h : noDefer ops = true) : ∀ (j : Nat) (o : Oper) c, ops[j]? = some o → o.op ≠ .defer c := by
  intro j o c ho e
  have hm : o ∈ ops.toList := by
    rw [← Array.getElem?_toList] at ho
    exact List.mem_of_getElem? ho
  have := List.all_eq_true.1 h o hm
  rw [e] at this
  cases this
theorem wpAnyIn_drawn (hnd : noDefer ops = true) {fuel : Nat} {listed : Array Bool} {a : Act} {w : World}
    (h : wpAnyIn { F with round := none } n P md ops Q fuel listed a w) : wpAnyIn F n P md ops Q fuel listed a w :=
  wpAnyIn_unround (noDefer_spec hnd) _ _ _ _ h
end
section
variable {F : Fence} {n : Nat} {P : Program} {ops : Array Oper} {md : Region.Mode} {C : World → Prop}
def Closed (md : Region.Mode) (ops : Array Oper) (listed : Array Bool) : Prop :=
  ∀ (k : Nat) (ok : Oper), listed.getD k false = true → ops[k]? = some ok → ∀ e ∈ ok.after, Region.binds md e = true → listed.getD e.on false = true
theorem Closed.take {listed : Array Bool} (h : Closed md ops listed) {j : Nat} (hj : j ∈ Region.ready md ops listed) : Closed md ops (listed.setIfInBounds j true) := by
  intro k ok hk hok e he hb
  obtain ⟨_, oj, hoj, hall⟩ := mem_ready.1 hj
  by_cases hkj : j = k
  · subst hkj
    rw [hoj] at hok
    cases hok
    exact getD_set_true (hall e he hb)
  · rw [getD_set_ne false hkj] at hk
    exact getD_set_true (h k ok hk hok e he hb)
def wpAnyQ1 (F : Fence) (n : Nat) (P : Program) (md : Region.Mode) (ops : Array Oper) (C : World → Prop) (L : Array Bool) (Q : Act → Prop) : Nat → Array Bool → Act → Prop
  | 0, listed, a => listed = L ∧ Q a
  | k + 1, listed, a => Region.ready md ops listed ≠ [] ∧
    ∀ i ∈ Region.ready md ops listed, qOpIn F n P ops C i (wpAnyQ1 F n P md ops C L Q k (listed.setIfInBounds i true)) a
theorem wpAnyQ1_first {Q : Act → Prop} {L : Array Bool} {m : Nat} {om : Oper} (hfull : ∀ k, k < ops.size → k ≠ m → L.getD k false = true) (hL : Region.ready md ops L = [m]) (hom : ops[m]? = some om)
    (hlast : ∀ i, i < ops.size → i ≠ m → ∃ (k : Nat) (ok : Oper), ops[k]? = some ok ∧ k ≠ i ∧ ∃ e ∈ ok.after, Region.binds md e = true ∧ e.on = i)
    {i : Nat} {oi : Oper} {v : Value} (hi : ops[i]? = some oi) (him : i ≠ m) (hsel : ∀ (j : Nat) (o : Oper) cs b, ops[j]? = some o → o.op ≠ .select cs b) :
    ∀ (fuel : Nat) (listed : Array Bool) (a : Act),
      (∀ j oj, ops[j]? = some oj → j ≠ i → listed.getD j true = false → (∀ e ∈ oj.after, Region.binds md e = true → e.on ≠ i) → oi.apart ops oj = true) →
      Closed md ops listed → i ∈ Region.ready md ops listed → YieldsQuiet F n P ops C oi v a →
      wpAnyQ1 F n P md ops C L Q fuel (listed.setIfInBounds i true) (a.put oi.dst v) → wpAnyQ1 F n P md ops C L Q (fuel + 1) listed a := by
  have hnotb : ∀ (listed : Array Bool), i ∈ Region.ready md ops listed → ∀ (j : Nat) (oj : Oper), (∀ e ∈ oj.after, Region.binds md e = true → listed.getD e.on false = true) → ops[j]? = some oj →
      ∀ e ∈ oj.after, Region.binds md e = true → e.on ≠ i := fun listed hr j oj hall _ e he hb heq => by
    have h1 := hall e he hb
    have h0 := (mem_ready.1 hr).1
    rw [heq] at h1
    rcases Nat.lt_or_ge i listed.size with h' | h'
    · simp [h'] at h0 h1; rw [h0] at h1; cases h1
    · simp [Array.getElem?_eq_none h'] at h1
  intro fuel
  induction fuel with
  | zero =>
    intro listed a _ hcl hr hy H
    refine ⟨fun h => (by rw [h] at hr; cases hr), fun j hj => ?_⟩
    by_cases hji : j = i
    · subst hji; exact hy.qOpIn hi H
    · have h1 := ready_mono hj hji
      rw [H.1, hL] at h1
      have e : j = m := by simpa using h1
      subst e
      obtain ⟨_, oj, hoj, hall⟩ := mem_ready.1 hj
      rw [hom] at hoj
      cases hoj
      obtain ⟨k, ok, hok, hki, e, he, hb, hon⟩ := hlast i (Array.getElem?_eq_some_iff.1 hi).1 him
      by_cases hkm : k = j
      · subst hkm
        rw [hom] at hok
        cases hok
        exact absurd hon (hnotb listed hr k om hall hom e he hb)
      · have hk : listed.getD k false = true := by
          have h2 := hfull k (Array.getElem?_eq_some_iff.1 hok).1 hkm
          rw [← H.1, getD_set_ne false (Ne.symm hki)] at h2
          exact h2
        exact absurd hon (hnotb listed hr k ok (hcl k ok hk hok) hok e he hb)
  | succ fuel ih =>
    intro listed a hfree hcl hr hy H
    refine ⟨fun h => (by rw [h] at hr; cases hr), fun j hj => ?_⟩
    by_cases hji : j = i
    · subst hji; exact hy.qOpIn hi H
    · have h1 := H.2 j (ready_mono hj hji)
      obtain ⟨hjun, oj, hoj, hall⟩ := mem_ready.1 hj
      have hnot := hnotb listed hr j oj hall hoj
      have h2 := qOpIn_put hoj (hfree j oj hoj hji hjun hnot) (fun cs b => hsel i oi cs b hi) (fun cs b => hsel j oj cs b hoj) hy h1
      have hfree' : ∀ k ok, ops[k]? = some ok → k ≠ i → (listed.setIfInBounds j true).getD k true = false →
          (∀ e ∈ ok.after, Region.binds md e = true → e.on ≠ i) → oi.apart ops ok = true := fun k ok hk hki hun hno => by
        refine hfree k ok hk hki ?_ hno
        by_cases hjk : j = k
        · subst hjk; exact hjun
        · rw [getD_set_ne true hjk] at hun; exact hun
      refine qOpIn_mono (fun a' h3 => ih (listed.setIfInBounds j true) a' hfree' (hcl.take hj) (ready_mono hr (Ne.symm hji)) h3.1 ?_) h2
      rw [Array.setIfInBounds_comm _ _ hji]
      exact h3.2
def lexTo (md : Region.Mode) (ops : Array Oper) (L : Array Bool) : Nat → Nat → Array Bool → Bool
  | 0, _, listed => listed == L
  | k + 1, i, listed => (Region.ready md ops listed).contains i && Region.free md ops listed i && lexTo md ops L k (i + 1) (listed.setIfInBounds i true)
theorem wpAnyQ1_lex {Q : Act → Prop} {L : Array Bool} {m : Nat} {om : Oper} (hfull : ∀ k, k < ops.size → k ≠ m → L.getD k false = true) (hL : Region.ready md ops L = [m]) (hom : ops[m]? = some om)
    (hlast : ∀ i, i < ops.size → i ≠ m → ∃ (k : Nat) (ok : Oper), ops[k]? = some ok ∧ k ≠ i ∧ ∃ e ∈ ok.after, Region.binds md e = true ∧ e.on = i) (hs : Region.noSelect ops = true) :
    ∀ (l : List Oper) (k : Nat) (listed : Array Bool) (a : Act), k + l.length = m → (∀ j, j < l.length → l[j]? = ops[k + j]?) →
    Closed md ops listed → lexTo md ops L l.length k listed = true → wpQuietIn F n P ops C Q l a → wpAnyQ1 F n P md ops C L Q l.length listed a
  | [], _, _, _, _, _, _, hB, h => ⟨by simpa [lexTo] using hB, h⟩
  | o :: l, k, listed, a, hk, hl, hcl, hB, h => by
    have h0 : ops[k]? = some o := by simpa using (hl 0 (by simp)).symm
    simp only [List.length_cons, lexTo, Bool.and_eq_true] at hB
    obtain ⟨⟨hr, hf⟩, hB'⟩ := hB
    have hst : qOpIn F n P ops C k (wpQuietIn F n P ops C Q l) a := by unfold qOpIn; simp only [h0]; exact h
    obtain ⟨v, hy, hK⟩ := yieldsQuiet_of_qOpIn h0 hst
    have hk' : k + l.length + 1 = m := by simpa [Nat.add_assoc] using hk
    exact wpAnyQ1_first hfull hL hom hlast h0 (by omega) (Region.noSelect_spec hs) l.length listed a (Region.free_spec h0 hf) hcl (by simpa using hr) hy
      (wpAnyQ1_lex hfull hL hom hlast hs l (k + 1) _ _ (by omega) (fun j hj => by have := hl (j + 1) (by simp; omega); simpa [Nat.add_assoc, Nat.add_comm 1 j] using this) (hcl.take (by simpa using hr)) hB' hK)
theorem wpAnyIn_of_q1 {Q : Act → Prop} {L : Array Bool} {Q' : Exit → Act → World → Prop} (hro : F.round = none) (hQ : ∀ a w, C w → Q a → wpAnyIn F n P md ops Q' 1 L a w) :
    ∀ (k : Nat) (listed : Array Bool) (a : Act) (w : World), C w → wpAnyQ1 F n P md ops C L Q k listed a → wpAnyIn F n P md ops Q' (k + 1) listed a w
  | 0, _, _, _, hw, h => by rw [h.1]; exact hQ _ _ hw h.2
  | k + 1, _, _, _, hw, h => ⟨fun h0 => absurd h0 h.1, fun i hi => wpOpIn_of_qOpIn hro hw (fun a' w' hw' => wpAnyIn_of_q1 hro hQ k _ a' w' hw') (h.2 i hi)⟩
def lastB (ops : Array Oper) (m : Nat) : Bool :=
  let L := (Array.replicate ops.size true).setIfInBounds m false
  (ops.size == m + 1) && (Region.ready .any ops L == [m]) && (Region.ready .any ops (L.setIfInBounds m true) == []) &&
  ((List.range ops.size).all fun i => i == m || (List.range ops.size).any fun k => k != i && match ops[k]? with
    | some ok => ok.after.any fun e => Region.binds .any e && e.on == i
    | none => false) && Region.noSelect ops && noDefer ops && lexTo .any ops L m 0 (Array.replicate ops.size false)
theorem wpIn_region_last {id : Nat} {Q : Exit → Act → World → Prop} {a : Act} {w : World} {m : Nat} (hm : P.follows .mixedOrders = true) (hB : lastB ops m = true)
    {l : List Oper} (hl : ops.toList.take m = l)
    (h : wpQuietIn { F with round := none } n P ops (fun w' => ∃ n, w' = w.drewN n)
      (fun a' => ∀ w', (∃ n, w' = w.drewN n) → wpOpIn { F with round := none } n P ops Q m (fun a w => Q .normal a w) a' w') l a) :
    (Code.region id ops true).wpIn F n P Q a w := by
  subst hl
  unfold lastB at hB
  simp only [Bool.and_eq_true, beq_iff_eq] at hB
  obtain ⟨⟨⟨⟨⟨⟨hsz, hL⟩, hL1⟩, hla⟩, hs⟩, hnd⟩, hlex⟩ := hB
  have hml : m < ops.size := by omega
  cases hom : ops[m]? with
  | none => rw [Array.getElem?_eq_getElem hml] at hom; cases hom
  | some om =>
    simp only [List.all_eq_true, List.mem_range] at hla
    have hlast : ∀ i, i < ops.size → i ≠ m → ∃ (k : Nat) (ok : Oper), ops[k]? = some ok ∧ k ≠ i ∧ ∃ e ∈ ok.after, Region.binds .any e = true ∧ e.on = i := fun i hi hne => by
      have h1 := hla i hi
      simp only [Bool.or_eq_true, beq_iff_eq, hne, false_or, List.any_eq_true, List.mem_range, Bool.and_eq_true, bne_iff_ne, ne_eq] at h1
      obtain ⟨k, hk, hki, h2⟩ := h1
      rw [Array.getElem?_eq_getElem hk] at h2
      simp only [Array.any_eq_true] at h2
      obtain ⟨j, hj, h3⟩ := h2
      simp only [Bool.and_eq_true, beq_iff_eq] at h3
      exact ⟨k, ops[k], Array.getElem?_eq_getElem hk, hki, _, Array.getElem_mem hj, h3.1, h3.2⟩
    have hfull : ∀ k, k < ops.size → k ≠ m → ((Array.replicate ops.size true).setIfInBounds m false).getD k false = true := fun k hk hne => by
      rw [Array.getD_eq_getD_getElem?, Array.getElem?_setIfInBounds_ne (Ne.symm hne)]
      simp [hk]
    have hcl : Closed .any ops (Array.replicate ops.size false) := fun k ok hk => by
      simp [Array.getD_eq_getD_getElem?, Array.getElem?_replicate] at hk
      split at hk <;> cases hk
    refine wpIn_region_any hm (wpAnyIn_drawn hnd ?_)
    have hlen : (ops.toList.take m).length = m := by simp; omega
    have h1 := wpAnyQ1_lex (md := .any) hfull hL hom hlast hs (ops.toList.take m) 0 (Array.replicate ops.size false) a (by omega) (fun j hj => by simp [List.getElem?_take]; intro hc; omega) hcl (by rw [hlen]; exact hlex) h
    rw [hlen] at h1
    rw [hsz]
    rw [hsz] at h1
    refine wpAnyIn_of_q1 (C := fun w' => ∃ n, w' = w.drewN n) rfl (fun a w' hw' hq => ?_) m _ a _ ⟨1, rfl⟩ h1
    refine ⟨fun h0 => (by rw [hsz] at hL; rw [hL] at h0; cases h0), fun i hi => ?_⟩
    rw [hsz] at hL hL1
    rw [hL] at hi
    have e : i = m := by simpa using hi
    subst e
    exact wpOpIn_mono (fun a w h => ⟨hL1, h⟩) (hq w' hw')
end
end Go.Proofs.Ytpdmnineampimaa.Q
namespace Go.Proofs.Ytpdmnineampimaa.Q
open Go.RowKit Go.Proofs.YtpdmnineampimaaW.PrintWords Go.Proofs.YtpdmnineampimaaW.PrintLast Go.Proofs.YtpdmnineampimaaW.PrintMore
attribute [local go_sem] max2_int min2_int max_two min_two max_three min_three max_four min_four
theorem eqA55 (d : Nat) (w : World) (x0 y0 : Int) (x1 y1 : Int) (x2 y2 : Int) :
    (Op.equalIn (d + 2) 55 (.agg #[.int .i64 x0, .int .i64 x1, .int .i64 x2]) (.agg #[.int .i64 y0, .int .i64 y1, .int .i64 y2])).run Try.prog w = .ok (x0 == y0 && (x1 == y1 && (x2 == y2))) w := by
  have h := eqArr_of (d := d + 1) (w := w) (xs := #[.int .i64 x0, .int .i64 x1, .int .i64 x2]) (ys := #[.int .i64 y0, .int .i64 y1, .int .i64 y2]) Try.underlying55 (sz := 1) (by go_simp) [x0 == y0, x1 == y1, x2 == y2] rfl (by
    intro i b hb
    match i, hb with
    | 0, hb => cases hb; exact ⟨.int .i64 x0, .int .i64 y0, by go_simp, by go_simp, by go_simp⟩
    | 1, hb => cases hb; exact ⟨.int .i64 x1, .int .i64 y1, by go_simp, by go_simp, by go_simp⟩
    | 2, hb => cases hb; exact ⟨.int .i64 x2, .int .i64 y2, by go_simp, by go_simp, by go_simp⟩)
  simp only [List.all_cons, List.all_nil, id, Bool.and_true] at h
  exact h
end Go.Proofs.Ytpdmnineampimaa.Q
namespace Go.Proofs.Ytpdmnineampimaa.Q
open Go.RowKit Go.Proofs.YtpdmnineampimaaW.PrintWords Go.Proofs.YtpdmnineampimaaW.PrintLast Go.Proofs.YtpdmnineampimaaW.PrintMore
attribute [local go_sem] max2_int min2_int max_two min_two max_three min_three max_four min_four
theorem bnd {α β : Type} {o : Option α} {f : α → Option β} {r : β} (h : o.bind f = some r) : ∃ a, Aside0 (o = some a) ∧ f a = some r := by
  obtain ⟨a, h1, h2⟩ := Option.bind_eq_some_iff.mp h
  exact ⟨a, ⟨h1⟩, h2⟩
theorem ifT {α : Type} {p : Prop} [Decidable p] {a b r : α} (h : (if p then a else b) = r) (hp : p := by rfl) : a = r := by rwa [if_pos hp] at h
theorem ifF {α : Type} {p : Prop} [Decidable p] {a b r : α} (h : (if p then a else b) = r) (hp : ¬ p := by decide) : b = r := by rwa [if_neg hp] at h
theorem bK {W w w' : World} {g : Nat} {o : Obj} (h : Aside0 (W.heap[g]? = some o)) (hb : Below w.heap.size w w') (f : W.heap[g]? = some o → w.heap[g]? = some o := by intro h_; (with_reducible repeat (first | refine blk_drewN ?_ _ | refine blk_drew ?_ | refine blk_alloc ?_ _)); exact h_) : Aside0 (w'.heap[g]? = some o) := ⟨blk_below (f h.out) hb⟩
theorem nL {W w : World} {g g' : Nat} {o : Obj} (hg : g' = w.heap.size) (h : Aside0 (W.heap[g]? = some o)) (f : W.heap[g]? = some o → w.heap[g]? = some o := by intro h_; (with_reducible repeat (first | refine blk_drewN ?_ _ | refine blk_drew ?_ | refine blk_alloc ?_ _)); exact h_) : Aside0 (g ≠ g') := ⟨by rw [hg]; exact Nat.ne_of_lt (blk_lt (f h.out))⟩
theorem nG {W w : World} {g g' : Nat} {o : Obj} (hg : g' = w.heap.size) (h : Aside0 (W.heap[g]? = some o)) (f : W.heap[g]? = some o → w.heap[g]? = some o := by intro h_; (with_reducible repeat (first | refine blk_drewN ?_ _ | refine blk_drew ?_ | refine blk_alloc ?_ _)); exact h_) : Aside0 (g' ≠ g) := ⟨by rw [hg]; exact Nat.ne_of_gt (blk_lt (f h.out))⟩
theorem gE {w w1 : World} {g : Nat} (hg : g = w1.heap.size) (h : Below w.heap.size w w1) : Aside0 (w.heap.size ≤ g) := ⟨by rw [hg]; exact below_size h⟩
theorem bS {w W w2 : World} (h : Below w.heap.size w W) (k : Below W.heap.size W w2) : Aside0 (Below w.heap.size w w2) := ⟨below_step h k⟩
theorem sC {α : Type} {d : Kd α} {w w1 W : World} {A : Option Addr} {n : Nat} {xs : List α} (h : Aside0 (d.C w A n xs)) (hb : Aside0 (Below w.heap.size w w1)) (f : d.C w1 A n xs → d.C W A n xs := by intro h_; repeat (first | exact h_ | (with_reducible refine Kd.C_alloc ?_ _) | (with_reducible refine Kd.C_drewN ?_ _) | (with_reducible refine Kd.C_drew ?_))) : d.C W A n xs := f (Kd.C_below h.out hb.out)
theorem tE {A : Prop} (h : A := by first | rfl | (simp [errW_none, errW_some] <;> rfl) | (simp [*, errW_none, errW_some] <;> rfl)) : A := h
theorem tN {A : Prop} (h : A := by first | omega | exact Nat.le_refl _) : A := h
theorem kO {A G : Prop} (h : Aside0 A) (f : A → G := by intros; omega) : G := f h.out
theorem kO2 {A B G : Prop} (h : Aside0 A) (h2 : Aside0 B) (f : A → B → G := by intros; omega) : G := f h.out h2.out
theorem kO3 {A B C G : Prop} (h : Aside0 A) (h2 : Aside0 B) (h3 : Aside0 C) (f : A → B → C → G := by intros; omega) : G := f h.out h2.out h3.out
theorem kO4 {A B C D G : Prop} (h : Aside0 A) (h2 : Aside0 B) (h3 : Aside0 C) (h4 : Aside0 D) (f : A → B → C → D → G := by intros; omega) : G := f h.out h2.out h3.out h4.out
theorem kN {A B : Prop} (h : Aside0 A) (f : A → B := by intro h_; (repeat (first | (with_reducible first | refine blk_drewN ?_ _ | refine blk_drew ?_ | refine blk_alloc ?_ _) | (apply blk_far; case hp => exact Aside0.out (by assumption)) | (apply blk_put))); exact h_; all_goals first | (simp only [List.setIfInBounds_toArray, List.set_cons_zero, List.set_cons_succ]; done) | (simp only [List.setIfInBounds_toArray, List.set_cons_zero, List.set_cons_succ]; rfl) | rfl) : B := f h.out
theorem tH {S A : Prop} (h : S) (f : S → A := by intro hs_; (repeat (have s_ := And.left hs_; replace hs_ := And.right hs_)); repeat' (first | apply And.intro | with_reducible assumption | (with_reducible refine (cell_far (Aside0.out (by with_reducible assumption)) _).trans ?_) | exact (blk_cell (Aside0.out (by with_reducible assumption)) _).trans rfl)) : A := f h
section
variable {P : Program} {md : Region.Mode} {ops : Array Oper} {Q : Exit → Act → World → Prop} {S : World → Prop} {ds : List Nat} {T : Bool × List (List Nat × List Nat)}
theorem pS {oi : Oper} {v : Value} {fuel : Nat} {l l' : Array Bool} {a : Act} {w : World} (i : Nat) (N : Option Tmp) (hT : Aside0 (rtab md ops = T)) {a' : Act} (h : wpAnyLast P md ops Q S ds fuel l' a' w)
    (hi : ops[i]? = some oi := by rfl) (hN : oi.dst = N := by rfl) (hl : l.setIfInBounds i true = l' := by simp only [List.setIfInBounds_toArray, List.set_cons_zero, List.set_cons_succ]; rfl) (hc : anyT T l.toList l'.toList i = true := by kernel_rfl)
    (hQ : ∀ c a w, Q (.panic c) (a.put oi.dst v) w → Q (.panic c) a w := by exact fun _ _ _ h => h) (hy : Yields P ops oi v a := by first | (refine Or.inl ⟨by rfl, ?_⟩; intro w'; go_simp; with_reducible rfl) | exact Or.inr ⟨by rfl, rfl⟩)
    (ha : a.put N v = a' := by simp only [Act.put, List.setIfInBounds_toArray, List.set_cons_zero, List.set_cons_succ, i64_w, i32_w]; rfl) : wpAnyLast P md ops Q S ds (fuel + 1) l a w :=
  pure_ l' hi hN (any_of hT.out hc) hQ hy ha h
theorem uS {oi : Oper} {fuel : Nat} {l l' : Array Bool} {a : Act} {w : World} (i : Nat) (N : Option Tmp) (hT : Aside0 (rtab md ops = T)) {a' : Act} (h : wpAnyLast P md ops Q S ds fuel l' a' w)
    (hi : ops[i]? = some oi := by rfl) (hN : oi.dst = N := by rfl) (hl : l.setIfInBounds i true = l' := by simp only [List.setIfInBounds_toArray, List.set_cons_zero, List.set_cons_succ]; rfl) (hc : anyT T l.toList l'.toList i = true := by kernel_rfl)
    (hQ : ∀ c a w, Q (.panic c) (a.put oi.dst undef) w → Q (.panic c) a w := by exact fun _ _ _ h => h) (hy : Yields P ops oi undef a := by exact Or.inr ⟨by rfl, rfl⟩)
    (ha : a.put N undef = a' := by simp only [Act.put, List.setIfInBounds_toArray, List.set_cons_zero, List.set_cons_succ, i64_w, i32_w]; rfl) : wpAnyLast P md ops Q S ds (fuel + 1) l a w :=
  pure_ l' hi hN (any_of hT.out hc) hQ hy ha h
theorem tS {oi : Oper} {v : Value} {fuel : Nat} {l l' : Array Bool} {a : Act} {w : World} {B : List Nat} (i : Nat) (N : Option Tmp) (hT : Aside0 (rtab md ops = T)) (hB : Aside0 (waitsOk T.2 B = true)) (hS : S w) {a' : Act} (h : wpAnyLast P md ops Q S ds fuel l' a' w)
    (hi : ops[i]? = some oi := by rfl) (hN : oi.dst = N := by rfl) (hl : l.setIfInBounds i true = l' := by simp only [List.setIfInBounds_toArray, List.set_cons_zero, List.set_cons_succ]; rfl) (hc : takeW T B ds l.toList l'.toList i = true := by kernel_rfl)
    (hQ : ∀ c a w, Q (.panic c) (a.put oi.dst v) w → Q (.panic c) a w := by exact fun _ _ _ h => h) (hy : YieldsIf P ops S oi v a := by refine Or.inl ⟨by rfl, ?_⟩; intro w' hs_; (repeat (have s_ := And.left hs_; replace hs_ := And.right hs_)); go_simp; with_reducible rfl)
    (ha : a.put N v = a' := by simp only [Act.put, List.setIfInBounds_toArray, List.set_cons_zero, List.set_cons_succ, i64_w, i32_w]; rfl) : wpAnyLast P md ops Q S ds (fuel + 1) l a w :=
  take_ l' hi hN (take_ofW hT.out hB.out hc) hQ hy hS ha h
theorem oS {oi : Oper} {fuel : Nat} {l l' : Array Bool} {a : Act} {w : World} (i : Nat) (N : Option Tmp) (hT : Aside0 (rtab md ops = T))
    (h : ∀ K : Act → World → Prop, Shut (∀ a' w', S w' → (S w' → wpAnyLast P md ops Q S ds fuel l' a' w') → K a' w') → if Region.wanted oi (yielded ops a.tmps) = true then Oper.wp P oi a w K Q else K (a.put N undef) w)
    (hi : ops[i]? = some oi := by rfl) (hN : oi.dst = N := by rfl) (hl : l.setIfInBounds i true = l' := by simp only [List.setIfInBounds_toArray, List.set_cons_zero, List.set_cons_succ]; rfl) (hc : (readyT T.2 l.toList == [i] && l.toList.set i true == l'.toList) = true := by kernel_rfl) (hd : i ∉ ds := by decide) :
    wpAnyLast P md ops Q S ds (fuel + 1) l a w :=
  one_ l' hi hN (one_of hT.out hc) hd h
theorem lS {oi : Oper} {fuel : Nat} {l l' : Array Bool} {a : Act} {w : World} (i : Nat) (N : Option Tmp) (hT : Aside0 (rtab md ops = T))
    (h : ∀ K : Act → World → Prop, Shut (∀ a' w', wpAnyLast P md ops Q S ds fuel l' a' w' → K a' w') → if Region.wanted oi (yielded ops a.tmps) = true then Oper.wp P oi a w K Q else K (a.put N undef) w)
    (hi : ops[i]? = some oi := by rfl) (hN : oi.dst = N := by rfl) (hl : l.setIfInBounds i true = l' := by simp only [List.setIfInBounds_toArray, List.set_cons_zero, List.set_cons_succ]; rfl) (hc : (readyT T.2 l.toList == [i] && l.toList.set i true == l'.toList) = true := by kernel_rfl) (hd : i ∈ ds := by decide) :
    wpAnyLast P md ops Q S ds (fuel + 1) l a w :=
  last_ l' hi hN (one_of hT.out hc) hd h
theorem bE {rest : List Oper} {o : Oper} {a : Act} {W : World} (N : Tmp) (t : TypeId) (cs : Array Value)
    (h : ∀ g, g = W.heap.size → ∀ w1, w1.heap[g]? = some (.cells cs t (0, 0)) → Below W.heap.size W w1 → wpList P ops Q rest (a.put o.dst (.pointer (some ⟨g, 0, none⟩))) w1)
    (hd : o.dst = some N := by rfl) (hgd : o.guard = none := by rfl)
    (hrun : (execOp a.eval o).run P W = .ok (.value (.pointer (some ⟨W.heap.size, 0, none⟩))) (W.alloc (.cells cs t (0, 0))) := by first | (go_simp; done) | (go_simp; rfl)) : wpList P ops Q (o :: rest) a W :=
  box_event hgd hd hrun h
theorem gL {rest : List Oper} {oi : Oper} {a : Act} {w : World} (N : Option Tmp) {f : FuncId} {fn : Func} {as_ : Array Operand} {ts : Array TypeId} (hf : P.funcs[f]? = some fn) (args : Array Value) {R : Ending → World → Prop} (hc : Calls P f args w R)
    (h : ∀ e w', R e w' → ∃ v, e = .returned v ∧ wpList P ops Q rest (a.put N v) w') (hd : oi.dst = N := by rfl) (hg : oi.guard = none := by rfl)
    (hname : (fn.name == "runtime.NumGoroutine") = false := by kernel_rfl) (hb : fn.body.isSome = true := by rfl)
    (hop : oi.op = .call { callee := .value (.func f), args := as_, argTypes := ts } := by rfl) (hargs : as_.map a.eval = args := by (try simp only [List.map_toArray, List.map_cons, List.map_nil]); first | done | rfl | (simp only [List.length_drop, List.length_take]; rfl)) : wpList P ops Q (oi :: rest) a w :=
  goesL_ N hd hg hf hname hb args hop hargs (hc.mono h)
end
end Go.Proofs.Ytpdmnineampimaa.Q
