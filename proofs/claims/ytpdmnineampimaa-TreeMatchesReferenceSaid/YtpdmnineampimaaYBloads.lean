import Derived.Test.YtpdmnineampimaaYQx27
import Derived.Test.YtpdmnineampimaaYQx53
import Derived.Test.YtpdmnineampimaaYQx54
import Derived.Test.YtpdmnineampimaaYBvalid
import Derived.Test.YtpdmnineampimaaYBtree
set_option linter.unusedVariables false
set_option linter.unusedSimpArgs false
namespace Go.Proofs.Ytpdmnineampimaa.Baseloads
open Go.RowKit Go.Proofs.Ytpdmnineampimaa.Q Go.Proofs.YtpdmnineampimaaW.PrintWords Go.Proofs.YtpdmnineampimaaW.PrintLast Go.Proofs.YtpdmnineampimaaW.PrintMore Go.Proofs.Ytpdmnineampimaa.Basevalid Go.Proofs.Ytpdmnineampimaa.Basetree
section
variable {l0 : List S48} {l1 : List S62} {l2 : List S84} {l3 : List S42} {l4 : List S87}
def wayL (l0 : List S48) (l3 : List S42) (i : Nat) : List Int := upL l0 17 (rd_T42 l3 (i : Int)).f1
def sumL (l0 : List S48) (l3 : List S42) (amps : List Int) (c : Int) (p : Nat) : Nat → Int
  | 0 => 0
  | i + 1 => sumL l0 l3 amps c p i + (if c ∈ wayL l0 l3 i ∧ bitOf (rd_T42 l3 (i : Int)).f2 p = true then rd amps i else 0)
theorem sum_bd {amps : List Int} {n : Nat} (ha : ∀ j : Nat, j < n → 0 ≤ rd amps j ∧ rd amps j ≤ 80) (c : Int) (p : Nat) : ∀ i, i ≤ n → 0 ≤ sumL l0 l3 amps c p i ∧ sumL l0 l3 amps c p i ≤ 80 * i
  | 0, _ => by simp [sumL]
  | i + 1, h => by
    have a := sum_bd ha c p i (by omega)
    have b := ha i (by omega)
    simp only [sumL]
    split <;> omega
theorem fs_way (F : FineS l0 l1 l2 l3 l4) {i : Nat} (hi : i < l3.length) : PathF l0 (rd_T42 l3 (i : Int)).f1 (wayL l0 l3 i) :=
  fs_path F (F.at_ (a := (i : Int)) (by omega) (by omega)).1 (F.at_ (a := (i : Int)) (by omega) (by omega)).2
theorem fold_bump (ph a : Int) : ∀ (xs : List Int) (out : List S55), xs.Nodup → (∀ x ∈ xs, 0 ≤ x ∧ x < out.length) → ∀ c : Nat, c < out.length →
    rd_T55 (xs.foldl (bumpAt ph a) out) c = if (c : Int) ∈ xs then bump (rd_T55 out c) ph a else rd_T55 out c
  | [], out, _, _, c, _ => by simp
  | x :: xs, out, hn, hr, c, hc => by
    rw [List.foldl_cons]
    have hx := hr x (List.mem_cons_self ..)
    have hl : (bumpAt ph a out x).length = out.length := by simp [bumpAt]
    have ih := fold_bump ph a xs (bumpAt ph a out x) (List.nodup_cons.1 hn).2 (fun y hy => by rw [hl]; exact hr y (List.mem_cons_of_mem _ hy)) c (by omega)
    rw [ih]
    by_cases e : (c : Int) = x
    · have hni : ¬ (c : Int) ∈ xs := fun h => (List.nodup_cons.1 hn).1 (e ▸ h)
      rw [if_neg hni, if_pos (by rw [e]; exact List.mem_cons_self ..)]
      subst e
      simp [bumpAt, rd_T55, List.getD_eq_getElem?_getD, hc]
    · have hs : rd_T55 (bumpAt ph a out x) (c : Int) = rd_T55 out c := by
        have : x.toNat ≠ c := by omega
        simp [bumpAt, rd_T55, List.getD_eq_getElem?_getD, List.getElem?_set_ne this]
      rw [hs]
      by_cases m : (c : Int) ∈ xs
      · rw [if_pos m, if_pos (List.mem_cons_of_mem _ m)]
      · rw [if_neg m, if_neg (fun h => (List.mem_cons.1 h).elim e m)]
theorem fold_len' (ph a : Int) : ∀ (xs : List Int) (out : List S55), (xs.foldl (bumpAt ph a) out).length = out.length
  | [], _ => rfl
  | x :: xs, out => by rw [List.foldl_cons, fold_len' ph a xs]; simp [bumpAt]
theorem to_len (amps : List Int) : ∀ i, (loadsTo l0 l3 amps i).length = l0.length
  | 0 => by simp [loadsTo]
  | i + 1 => by simp only [loadsTo]; rw [fold_len', to_len amps i]
theorem loads_get (F : FineS l0 l1 l2 l3 l4) {amps : List Int} (ha : ∀ j : Nat, j < l3.length → 0 ≤ rd amps j ∧ rd amps j ≤ 80) (c : Nat) (hc : c < l0.length) : ∀ i, i ≤ l3.length →
    rd_T55 (loadsTo l0 l3 amps i) c = ⟨sumL l0 l3 amps c 0 i, sumL l0 l3 amps c 1 i, sumL l0 l3 amps c 2 i⟩
  | 0, _ => by
    simp [loadsTo, sumL, rd_T55, List.getD_eq_getElem?_getD, List.getElem?_replicate, hc, z55]
  | i + 1, h => by
    have P := fs_way F (i := i) (by omega)
    have hn3 := F.n3
    simp only [loadsTo]
    have hf := fold_bump (rd_T42 l3 (i : Int)).f2 (rd amps i) (wayL l0 l3 i) (loadsTo l0 l3 amps i) P.nodup (fun x hx => by rw [to_len]; exact P.rng x hx) c (by rw [to_len]; exact hc)
    show rd_T55 ((wayL l0 l3 i).foldl _ _) _ = _
    rw [hf, loads_get F ha c hc i (by omega)]
    have b0 := sum_bd (l0 := l0) (l3 := l3) ha c 0 i (by omega)
    have b1 := sum_bd (l0 := l0) (l3 := l3) ha c 1 i (by omega)
    have b2 := sum_bd (l0 := l0) (l3 := l3) ha c 2 i (by omega)
    have bi := ha i (by omega)
    simp only [sumL]
    by_cases m : (c : Int) ∈ wayL l0 l3 i
    · rw [if_pos m]
      simp only [m, true_and, bump]
      rw [hb_wrap64 _ (by omega) (by omega), hb_wrap64 _ (by omega) (by omega), hb_wrap64 _ (by omega) (by omega)]
      congr 1 <;> split <;> simp
    · rw [if_neg m]
      simp [m]
theorem loads_at (F : FineS l0 l1 l2 l3 l4) {amps : List Int} (ha : ∀ j : Nat, j < l3.length → 0 ≤ rd amps j ∧ rd amps j ≤ 80) (c : Nat) (hc : c < l0.length) :
    rd_T55 (loadsV l0 l3 amps) c = ⟨sumL l0 l3 amps c 0 l3.length, sumL l0 l3 amps c 1 l3.length, sumL l0 l3 amps c 2 l3.length⟩ := loads_get F ha c hc _ (Nat.le_refl _)
theorem loadsV_len (amps : List Int) : (loadsV l0 l3 amps).length = l0.length := to_len amps _
structure AmpsF (n : Nat) (amps : List Int) : Prop where
  len : amps.length = n
  get : ∀ j : Nat, j < n → 0 ≤ rd amps j ∧ rd amps j ≤ 80
theorem tloads_ok (w : site_Valid.f l0 l1 l2 l3 l4 = some true) (F : FineS l0 l1 l2 l3 l4) {amps : List Int} (ha : AmpsF l3.length amps) : tree_Loads.f l0 l1 l2 l3 l4 amps = some (loadsV l0 l3 amps, 0) := by
  unfold tree_Loads.f
  have hb : amps.any badA = false := by
    rw [List.any_eq_false]
    intro x hx
    obtain ⟨j, hj, rfl⟩ := List.mem_iff_getElem.1 hx
    have := ha.get j (by rw [← ha.len]; exact hj)
    simp only [rd, List.getD_eq_getElem?_getD, Int.toNat_natCast, hj, List.getElem?_eq_getElem, Option.getD_some] at this
    simp [badA]; omega
  have := ha.len; have := F.n3
  rw [if_neg (by omega), if_neg (by omega), if_neg (by rw [hb]; decide), w]
  rfl
theorem lds_ok (w : site_Valid.f l0 l1 l2 l3 l4 = some true) (F : FineS l0 l1 l2 l3 l4) {amps : List Int} (ha : AmpsF l3.length amps) : w08_loads.f l0 l1 l2 l3 l4 amps = some (loadsV l0 l3 amps, true) := by
  unfold w08_loads.f
  rw [tloads_ok w F ha, Option.bind_some, if_pos rfl, loadsV_len]; simp
theorem cur_l0 (l : List Int) (hl : ∀ x ∈ l, (Lit.int .u8 x).wf = true) (n : Nat) (hn : n ≤ 1000) : ∀ (d i : Nat) (ys : List Int), i + d = n → AmpsF n ys →
    ∃ zs, Evt (fun k => w08_currents.l0 k l ys n i) zs ∧ AmpsF n zs
  | 0, i, ys, hi, ha => ⟨ys, Evt.const fun k _ => by simp only [w08_currents.l0]; rw [if_neg (by omega)], ha⟩
  | d + 1, i, ys, hi, ha => by
    by_cases hlt : i < l.length
    · have hx := wf_u8 (hl l[i] (List.getElem_mem hlt))
      have e : rd l (i : Int) = l[i] := by simp [rd, List.getD_eq_getElem?_getD, hlt]
      have hm0 : 0 ≤ Int.tmod l[i] 81 := by rw [Int.tmod_eq_emod_of_nonneg hx.1]; exact Int.emod_nonneg _ (by omega)
      have hm1 : Int.tmod l[i] 81 < 81 := by rw [Int.tmod_eq_emod_of_nonneg hx.1]; exact Int.emod_lt_of_pos _ (by omega)
      have hlen := ha.len
      obtain ⟨zs, h1, h2⟩ := cur_l0 l hl n hn d (i + 1) (ys.set i (Int.tmod l[i] 81)) (by omega) ⟨by simp [ha.len], fun j hj => by
        by_cases hij : i = j
        · subst hij; simp only [rd, List.getD_eq_getElem?_getD, Int.toNat_natCast, List.getElem?_set_self (show i < ys.length by omega), Option.getD_some]; omega
        · have := ha.get j hj
          simpa [rd, List.getD_eq_getElem?_getD, List.getElem?_set_ne hij] using this⟩
      refine ⟨zs, h1.step fun k _ => ?_, h2⟩
      simp only [w08_currents.l0]
      rw [if_pos (by omega), if_pos (by omega), if_pos (by omega), if_pos (by omega), e, hb_wrap64 _ (by omega) (by omega), hb_wrap64 _ (by omega) (by omega), Int.toNat_natCast]
      rfl
    · obtain ⟨zs, h1, h2⟩ := cur_l0 l hl n hn d (i + 1) ys (by omega) ha
      refine ⟨zs, h1.step fun k _ => ?_, h2⟩
      simp only [w08_currents.l0]
      rw [if_pos (by omega), if_neg (by omega), hb_wrap64 _ (by omega) (by omega)]
      rfl
theorem cur_ok (l : List Int) (hl : ∀ x ∈ l, (Lit.int .u8 x).wf = true) (hn : l3.length ≤ 1000) : ∃ zs, Evt (fun k => w08_currents.f k l0 l1 l2 l3 l4 l) zs ∧ AmpsF l3.length zs := by
  obtain ⟨zs, h1, h2⟩ := cur_l0 l hl l3.length hn l3.length 0 (List.replicate l3.length 0) (by omega) ⟨by simp, fun j hj => by simp [rd, List.getD_eq_getElem?_getD, List.getElem?_replicate, hj]⟩
  obtain ⟨K, hK⟩ := h1
  refine ⟨zs, ⟨K, fun k hk => ?_⟩, h2⟩
  show w08_currents.f k l0 l1 l2 l3 l4 l = _
  unfold w08_currents.f
  rw [if_pos (by omega), if_pos (by simp; omega), Int.toNat_natCast]
  simp only [Option.bind_some, List.length_replicate]
  exact hK k hk
end
end Go.Proofs.Ytpdmnineampimaa.Baseloads
