-- Written by a program of this session (wip/tools/mk.py), through the kit's print program.
import Derived.Test.YtnfkddanbhibbaaQx0
import Derived.Test.YtnfkddanbhibbaaQx2
import Derived.Test.YtnfkddanbhibbaaQx3
import Derived.Test.YtnfkddanbhibbaaQx7
import Derived.Test.YtnfkddanbhibbaaQx8
namespace Go.Proofs.Ytnfkddanbhibbaa.Q
open Go.RowKit Go.Proofs.YtnfkddanbhibbaaW.PrintWords Go.Proofs.YtnfkddanbhibbaaW.PrintLast Go.Proofs.YtnfkddanbhibbaaW.PrintMore
attribute [local go_sem] max2_int min2_int max_two min_two max_three min_three max_four min_four   -- for this text's walks alone
set_option linter.unusedVariables false
set_option linter.unusedSimpArgs false

/-! ### fuse_Melts: function 13 -/
-- FOREIGN chargepark/fuse.Melts
-- MAKING 1
-- NEEDS chargepark/fuse.start
-- NEEDS (chargepark/fuse.warm).after
-- NEEDS (chargepark/fuse.warm).isMelted
-- NEEDS chargepark/fuse.isCurrent
attribute [local go_sem] Oper.semAt_some
def fExc (r n : Int) : Int := if r = 0 then 0 else n * n - r * r
def fNext (r now n : Int) : Int := mx 0 (now + fExc r n)
/-- the heats after each tick -/
def fHeats (r : Int) : Int → List Int → List Int
  | _, [] => []
  | now, n :: l => fNext r now n :: fHeats r (fNext r now n) l
theorem fHeats_length (r : Int) : ∀ (now : Int) (l : List Int), (fHeats r now l).length = l.length
  | _, [] => rfl
  | now, n :: l => by simp [fHeats, fHeats_length r _ l]
def fHeatAt (r now : Int) (l : List Int) (i : Nat) : Int := match i with
  | 0 => now
  | i + 1 => (fHeats r now l).getD i 0
theorem fHeat_step (r : Int) : ∀ (l : List Int) (now : Int) (i : Nat), i < l.length → fHeatAt r now l (i + 1) = fNext r (fHeatAt r now l i) (l.getD i 0)
  | [], _, _, h => by simp at h
  | n :: l, now, 0, _ => by simp [fHeatAt, fHeats]
  | n :: l, now, i + 1, h => by
    have := fHeat_step r l (fNext r now n) i (by simpa using h)
    simp only [fHeatAt, fHeats, List.getD_cons_succ] at this ⊢
    cases i with
    | zero => simpa [fHeatAt] using this
    | succ i => simpa [fHeatAt] using this
theorem fExc_bd {r n : Int} (hr : 0 ≤ r ∧ r ≤ 1000) (hn : 0 ≤ n ∧ n ≤ 1000) : -1000000 ≤ fExc r n ∧ fExc r n ≤ 1000000 := by
  have a := hb_sq (d := r) 1000 (by omega) (by omega)
  have b := hb_sq (d := n) 1000 (by omega) (by omega)
  unfold fExc; split <;> omega
theorem fNext_bd {r now n : Int} (hr : 0 ≤ r ∧ r ≤ 1000) (hn : 0 ≤ n ∧ n ≤ 1000) (h0 : 0 ≤ now) : 0 ≤ fNext r now n ∧ fNext r now n ≤ now + 1000000 := by
  have := fExc_bd hr hn
  unfold fNext mx; split <;> omega
theorem fHeat_bd {r : Int} (l : List Int) (hr : 0 ≤ r ∧ r ≤ 1000) (hl : ∀ n ∈ l, 0 ≤ n ∧ n ≤ 1000) : ∀ i : Nat, i ≤ l.length → 0 ≤ fHeatAt r 0 l i ∧ fHeatAt r 0 l i ≤ i * 1000000
  | 0, _ => by simp [fHeatAt]
  | i + 1, h => by
    have a := fHeat_bd l hr hl i (by omega)
    rw [fHeat_step r l 0 i (by omega)]
    have hm : 0 ≤ l.getD i 0 ∧ l.getD i 0 ≤ 1000 := by
      have : l.getD i 0 = l[i]'(by omega) := by simp [List.getD_eq_getElem?_getD, show i < l.length by omega]
      rw [this]; exact hl _ (List.getElem_mem _)
    have b := fNext_bd hr hm a.1
    omega
theorem after_eq {r h now n : Int} (hr : 0 ≤ r ∧ r ≤ 1000) (hn : 0 ≤ n ∧ n ≤ 1000) (h0 : 0 ≤ now) (h1 : now ≤ 1000000000000) : fuse_warm_after.f r h now n = some (r, h, fNext r now n) := by
  have a := hb_sq (d := r) 1000 (by omega) (by omega)
  have b := hb_sq (d := n) 1000 (by omega) (by omega)
  have c := fExc_bd hr hn
  unfold fuse_warm_after.f fuse_warm_excess.f
  unfold fNext
  unfold fExc at c ⊢
  by_cases e : r = 0
  · rw [if_pos e, if_pos e]; simp only [Option.bind_some]; rw [hb_wrap64 _ (by omega) (by omega)]
  · rw [if_neg e, if_neg e]; simp only [Option.bind_some]
    rw [if_neg e] at c
    rw [hb_wrap64 (n * n) (by omega) (by omega), hb_wrap64 (r * r) (by omega) (by omega), hb_wrap64 (n * n - r * r) (by omega) (by omega), hb_wrap64 _ (by omega) (by omega)]
theorem ticks_calls (r h now : Int) (A : Option Addr) (n c : Nat) (w : World) :
    Calls Try.prog 25 #[.agg #[.int .i64 r, .int .i64 h, .int .i64 now], .slice A n c] w fun e w' =>
      e = .returned (.func (.func 30) #[] #[.pointer (some ⟨w.heap.size + 1, 0, none⟩), .pointer (some ⟨w.heap.size, 0, none⟩)]) ∧
      w' = (w.alloc (.cells #[.int .i64 r, .int .i64 h, .int .i64 now] 42)).alloc (.cells #[.slice A n c] 24) := by
  go_enter Try.func25, Try.ntmps25
  go_wp2
  go_ret
  exact ⟨rfl, rfl⟩
/-- what the iterator yields -/
def tickL (r h : Int) (l : List Int) : List (Int × Int × Int × Int) := (List.range l.length).map fun (i : Nat) => ((i : Int), r, h, fHeatAt r 0 l ((i : Nat) + 1))
def tickE (x : Int × Int × Int × Int) : Array Value := #[.int .i64 x.1, .agg #[.int .i64 x.2.1, .int .i64 x.2.2.1, .int .i64 x.2.2.2]]
theorem tickL_length (r h : Int) (l : List Int) : (tickL r h l).length = l.length := by simp [tickL]
theorem tickL_get (r h : Int) (l : List Int) (i : Nat) (hi : i < (tickL r h l).length) : (tickL r h l)[i] = ((i : Int), r, h, fHeatAt r 0 l (i + 1)) := by simp [tickL]
theorem cell_block_lt {w : World} {a : Addr} {v : Value} (h : w.cell? a = some v) : a.block < w.heap.size := by
  rcases Nat.lt_or_ge a.block w.heap.size with h1 | h1
  · exact h1
  · rw [World.cell?, Array.getElem?_eq_none h1] at h; cases h
theorem C_block_lt {k : IntKind} {w : World} {A : Option Addr} {l : List Int} (hC : (Kd.int k).C w A l.length l) : ∀ ad, A = some ad → 0 < l.length → ad.block < w.heap.size := by
  intro ad hA hl
  obtain ⟨ad', hA', hcell⟩ := Kd.at_int hC 0 (by omega) (by omega)
  rw [hA] at hA'; cases hA'
  have := cell_block_lt hcell
  have e : (ad.add (0 : Int).toNat).block = ad.block := by unfold Addr.add; split <;> rfl
  omega
set_option maxHeartbeats 1000000 in
theorem ticks_iter (r h : Int) (hr : 0 ≤ r ∧ r ≤ 1000) (A : Option Addr) (l : List Int) (c : Nat) (w : World) (bw bs : Nat) (hbw : bw < w.heap.size) (hbs : bs < w.heap.size) (hne : bw ≠ bs)
    (hw : w.heap[bw]? = some (.cells #[.int .i64 r, .int .i64 h, .int .i64 0] 42 (0, 0))) (hs : w.heap[bs]? = some (.cells #[.slice A l.length c] 24 (0, 0)))
    (n0 : Nat) (hn0 : n0 ≤ bw) (hn1 : n0 ≤ bs) (hA : ∀ ad, A = some ad → 0 < l.length → ad.block < n0) (hC : (Kd.int .i64).C w A l.length l) (hl : ∀ n ∈ l, 0 ≤ n ∧ n ≤ 1000) (hlen : l.length ≤ 10000) :
    IterC Try.prog 30 #[.pointer (some ⟨bs, 0, none⟩), .pointer (some ⟨bw, 0, none⟩)] tickE (tickL r h l) (fun k => k = bw) (fun k => k < n0 ∨ k = bs ∨ k = bw) w := by
  intro ly J Jx W hW hJ hJx hY h0
  refine callsIn_of_wp Try.func30 rfl trivial ?_ rfl
  simp only [Try.ntmps30, List.size_toArray, List.length_cons, List.length_nil, Nat.reduceAdd, Nat.reduceSub, Array.replicate_succ, Array.replicate_zero, List.push_toArray, List.append_toArray, List.nil_append, List.cons_append]
  have hw0 : W.heap[bw]? = some (.cells #[.int .i64 r, .int .i64 h, .int .i64 0] 42 (0, 0)) := (hW.block _ hbw (fun h => h)).trans hw
  have hs0 : W.heap[bs]? = some (.cells #[.slice A l.length c] 24 (0, 0)) := (hW.block _ hbs (fun h => h)).trans hs
  have cs := blk_cell hs0 0
  simp only [List.getElem?_toArray, List.getElem?_cons_zero] at cs
  have hl64 : (l.length : Int) ≤ 10000 := by omega
  gi_wp2
  gi_loopw [8] (fun i wr => ∃ k : Nat, k ≤ l.length ∧ i = .int .i64 k ∧ J k wr ∧ wr.heap[bw]? = some (.cells #[.int .i64 r, .int .i64 h, .int .i64 (fHeatAt r 0 l k)] 42 (0, 0)) ∧
      wr.heap[bs]? = some (.cells #[.slice A l.length c] 24 (0, 0)) ∧ (∀ j, j < n0 → wr.heap[j]? = w.heap[j]?)) (fun i wr => l.length - (intOf i).toNat)
  case atStart =>
    exact ⟨0, Nat.zero_le _, rfl, h0, hw0, hs0, fun j hj => hW.block j (by omega) (fun h => h)⟩
  case round =>
    obtain ⟨k, hk, rfl, hJk, hwk, hsk, hold⟩ := hrel
    by_cases hlt : k < l.length
    · have hkx : k < (tickL r h l).length := by rw [tickL_length]; exact hlt
      obtain ⟨ad, hAd, hcell⟩ := Kd.at_int hC (k : Int) (by omega) (by omega)
      subst hAd
      have hcell2 : wr.cell? (ad.add k) = some (.int .i64 (l.getD k 0)) := by
        have e : (ad.add k).block = ad.block := by unfold Addr.add; split <;> rfl
        rw [World.cell?_of_block (hold _ (by rw [e]; exact hA _ rfl (by omega)))]
        simpa [rd] using hcell
      obtain ⟨hb0, hb1⟩ := fHeat_bd l hr hl k hk
      have hn : 0 ≤ l.getD k 0 ∧ l.getD k 0 ≤ 1000 := by
        have : l.getD k 0 = l[k] := by simp [List.getD_eq_getElem?_getD, hlt]
        rw [this]; exact hl _ (List.getElem_mem _)
      have haft := after_eq (h := h) hr hn hb0 (by omega)
      rw [← fHeat_step r l 0 k hlt] at haft
      have HA := Lib.hid haft
      have c0 := blk_cell hwk 0
      have c1 := blk_cell hwk 1
      have c2 := blk_cell hwk 2
      simp only [List.getElem?_toArray, List.getElem?_cons_zero, List.getElem?_cons_succ] at c0 c1 c2
      clear haft hn
      generalize l.getD k 0 = n at *
      generalize fHeatAt r 0 l k = now at *
      gi_wp2
      refine ⟨trivial, rfl, callsIn_wide.2 ((fuse_warm_after.calls r h now n _ _ _ _ HA.out).mono ?_)⟩
      rintro e w1 ⟨rfl, hb⟩
      obtain ⟨hc1, hf1⟩ := hb_cells hb
      have hbwr : bw < wr.heap.size := (Array.getElem?_eq_some_iff.1 hwk).1
      have hbsr : bs < wr.heap.size := (Array.getElem?_eq_some_iff.1 hsk).1
      have hw1 : w1.heap[bw]? = some (.cells #[.int .i64 r, .int .i64 h, .int .i64 now] 42 (0, 0)) := (hb.block _ hbwr).trans hwk
      have f0 := blk_frozen hw1 0
      have f1 := blk_frozen hw1 1
      have f2 := blk_frozen hw1 2
      have e0 := blk_cell hw1 0
      have e1 := blk_cell hw1 1
      have e2 := blk_cell hw1 2
      simp only [List.getElem?_toArray, List.getElem?_cons_zero, List.getElem?_cons_succ] at e0 e1 e2
      clear c0 c1 c2 hc1 hf1
      obtain ⟨w2, hw2⟩ : ∃ w2, ((w1.setCell ⟨bw, 0, none⟩ (.int .i64 r)).setCell ⟨bw, 1, none⟩ (.int .i64 h)).setCell ⟨bw, 2, none⟩ (.int .i64 (fHeatAt r 0 l (k + 1))) = w2 := ⟨_, rfl⟩
      have hbww : bw < w.heap.size := hbw
      have hT : Turns (fun k => k = bw ∧ k < w.heap.size) wr w2 := by
        rw [← hw2]
        exact (((Turns.of_below _ hb).trans (Turns.setCell _ _ ⟨bw, 0, none⟩ _ ⟨rfl, hbw⟩)).trans (Turns.setCell _ _ ⟨bw, 1, none⟩ _ ⟨rfl, hbw⟩)).trans (Turns.setCell _ _ ⟨bw, 2, none⟩ _ ⟨rfl, hbw⟩)
      have hw22 : w2.heap[bw]? = some (.cells #[.int .i64 r, .int .i64 h, .int .i64 (fHeatAt r 0 l (k + 1))] 42 (0, 0)) := by
        rw [← hw2]; exact blk_put (blk_put (blk_put hw1 0 _ rfl) 1 _ rfl) 2 _ rfl
      have hs22 : w2.heap[bs]? = some (.cells #[.slice (some ad) l.length c] 24 (0, 0)) := (hT.block _ hbsr (fun h => hne h.1.symm)).trans hsk
      have hold2 : ∀ j, j < n0 → w2.heap[j]? = w.heap[j]? := fun j hj => (hT.block j (by omega) (fun h => by omega)).trans (hold j hj)
      obtain ⟨fn, tmps, assign, body, hy, hR⟩ := hY k hkx w2 (hJ k _ _ hJk hT)
      rw [tickL_get] at hy
      dsimp only [tickE] at hy
      rw [← hw2] at hy hR
      have HW2 := Lib.hid hw2
      have HR := Lib.hid hR
      have hbw2 : bw < w2.heap.size := (Array.getElem?_eq_some_iff.1 hw22).1
      have hbs2 : bs < w2.heap.size := (Array.getElem?_eq_some_iff.1 hs22).1
      have HS := Lib.hid (And.intro hw22 (And.intro hs22 hold2))
      clear hw2 hR hw22 hs22 hold2 hT
      gi_wp2
      refine ⟨rfl, HR.out.mono ?_⟩
      rintro e W' (⟨rfl, hJ', hk'⟩ | ⟨rfl, hJx'⟩)
      · gi_wp2
        go_roundw
        case rel =>
          obtain ⟨hw22, hs22, hold2⟩ := HS.out
          rw [HW2.out] at hk'
          exact ⟨k + 1, by omega, by go_num, hJ', (hk'.block _ hbw2 (by simp)).trans hw22, (hk'.block _ hbs2 (by simp)).trans hs22, fun j hj => (hk'.block j (by omega) (by simp; omega)).trans (hold2 j hj)⟩
        case measure => simp [intOf]; omega
      · gi_wp2
        refine bodyPost_ret (results_none rfl _ _ _) rfl ?_
        exact ⟨⟨_, rfl⟩, .inr ⟨k + 1, by rw [tickL_length]; omega, hJx'⟩⟩
    · obtain rfl : k = l.length := by omega
      gi_wp2
      go_end0
      exact ⟨⟨_, rfl⟩, .inl (by rw [tickL_length]; exact hJk)⟩

def fOk (n : Int) : Bool := okRange n 0 1000
theorem fOk_iff (n : Int) : fOk n = true ↔ 0 ≤ n ∧ n ≤ 1000 := by simp [fOk, okRange]
theorem start_zero (r h : Int) : fuse_start.f r h 0 0 = if okFuse r h then some (r, h, 0, 0) else some (0, 0, 0, 1) := by
  unfold fuse_start.f
  cases c : okFuse r h
  · rfl
  · have : 0 ≤ h := by
      unfold okFuse at c
      simp only [Bool.or_eq_true, Bool.and_eq_true, beq_iff_eq, decide_eq_true_eq] at c
      omega
    have e : okRange 0 0 h = true := by simp [okRange, this]
    rw [e]; rfl
/-- the tick in which the fuse melts -/
def fMelt (r h : Int) (l : List Int) : Option Nat := (List.range l.length).find? fun i => decide (h < fHeatAt r 0 l (i + 1))
def meltsVal (o : Option Nat) : Int := match o with | some i => i | none => -1
theorem fMelt_none {r h : Int} {l : List Int} (hn : ∀ j, j < l.length → ¬ h < fHeatAt r 0 l (j + 1)) : fMelt r h l = none := by
  unfold fMelt
  rw [List.find?_eq_none]
  intro j hj
  simpa using hn j (by simpa using hj)
theorem fMelt_some {r h : Int} {l : List Int} {j : Nat} (hj : j < l.length) (hn : ∀ j', j' < j → ¬ h < fHeatAt r 0 l (j' + 1)) (hm : h < fHeatAt r 0 l (j + 1)) : fMelt r h l = some j := by
  unfold fMelt
  rw [List.find?_range_eq_some]
  exact ⟨by simpa using hm, by simpa using hj, fun j' hj' => by simpa using hn j' hj'⟩
theorem getD_mem {l : List Int} {k : Nat} (h : k < l.length) : l.getD k 0 = l[k] := by simp [List.getD_eq_getElem?_getD, h]
set_option maxHeartbeats 1000000 in
theorem melts_good (r h : Int) (A : Option Addr) (c : Nat) (l : List Int) (w : World) (hC : (Kd.int .i64).C w A l.length l) (hlen : l.length ≤ 10000)
    (hok : okFuse r h = true) (hall : ∀ n ∈ l, 0 ≤ n ∧ n ≤ 1000) :
    Calls Try.prog 13 #[.agg #[.int .i64 r, .int .i64 h], .slice A l.length c] w fun e w' => e = .returned (.tuple #[.int .i64 (meltsVal (fMelt r h l)), .int .i64 0]) ∧ Below w.heap.size w w' := by
  have HSt : Hid (fuse_start.f r h 0 0 = some (r, h, 0, 0)) := Lib.hid ((start_zero r h).trans (by rw [hok]; rfl))
  refine (callsIn_wide (n := 0)).1 ?_
  refine callsIn_of_wp_marks Try.func13 rfl trivial ?_ rfl
  simp only [Try.ntmps13, List.size_toArray, List.length_cons, List.length_nil, Nat.reduceAdd, Nat.reduceSub, Array.replicate_succ, Array.replicate_zero, List.push_toArray, List.append_toArray, List.nil_append, List.cons_append]
  have hl64 : (l.length : Int) ≤ 10000 := by omega
  have hfz := C_block_lt hC
  have hok' := Lib.hid hok
  clear hok
  gi_wp2
  refine ⟨trivial, rfl, callsIn_wide.2 ((fuse_start.calls r h 0 0 _ _ _ _ _ HSt.out).mono ?_)⟩
  rintro e w1 ⟨rfl, hb⟩
  obtain ⟨hc1, hf1⟩ := hb_cells hb
  have hz := hb.size
  simp only [World.size_alloc] at hz hc1 hf1
  gi_wp2
  -- the world behind the start
  obtain ⟨W2, hW2⟩ : ∃ W2, w1.alloc (.cells #[.int .i64 r, .int .i64 h, .int .i64 0] 42) = W2 := ⟨_, rfl⟩
  have hsz1 : w.heap.size + 3 ≤ w1.heap.size := by omega
  have hsz2 : W2.heap.size = w1.heap.size + 1 := by rw [← hW2]; simp
  have hB1 : Below w.heap.size w w1 := (((Below.refl _ w).alloc (Nat.le_refl _) _).alloc (by simp) _).alloc (by simp; omega) _ |>.trans (hb.mono (by simp; omega))
  have hB2 : Below w.heap.size w W2 := by rw [← hW2]; exact hB1.alloc (by omega) _
  have b1 : W2.heap[w.heap.size + 1]? = some (.cells #[.int .i64 0] 3 (0, 0)) := by
    rw [← hW2]
    refine (Below.heap_alloc _ _ _ (by omega)).trans ((hb.block _ (by simp)).trans ?_)
    refine (Below.heap_alloc _ _ _ (by simp)).trans ?_
    have := heap_alloc_new (w.alloc (.cells #[.int .i64 r, .int .i64 h] 23)) (.cells #[.int .i64 0] 3); rwa [World.size_alloc] at this
  have b2 : W2.heap[w.heap.size + 1 + 1]? = some (.cells #[.int .i64 0] 26 (0, 0)) := by
    rw [← hW2]
    refine (Below.heap_alloc _ _ _ (by omega)).trans ((hb.block _ (by simp)).trans ?_)
    have := heap_alloc_new ((w.alloc (.cells #[.int .i64 r, .int .i64 h] 23)).alloc (.cells #[.int .i64 0] 3)) (.cells #[.int .i64 0] 26); rwa [World.size_alloc, World.size_alloc] at this
  have b3 : W2.heap[w1.heap.size]? = some (.cells #[.int .i64 r, .int .i64 h, .int .i64 0] 42 (0, 0)) := by rw [← hW2]; exact heap_alloc_new _ _
  rw [hW2]
  clear hW2 hc1 hf1 hb hz
  generalize hbw : w1.heap.size = bw at *
  clear hbw hB1
  gi_loopw [7, 22] (fun e i wr => ∃ k : Nat, k ≤ l.length ∧ e = .int .i64 0 ∧ i = .int .i64 k ∧ ∃ q, wr = W2.drewN q) (fun _ i _ => l.length - (intOf i).toNat)
  case atStart => exact ⟨0, Nat.zero_le _, rfl, rfl, 0, rfl⟩
  case round =>
    obtain ⟨k, hk, rfl, rfl, q, rfl⟩ := hrel
    by_cases hlt : k < l.length
    · obtain ⟨ad, hAd, hcell⟩ := Kd.at_int hC (k : Int) (by omega) (by omega)
      subst hAd
      have hn := hall _ (List.getElem_mem hlt)
      rw [← getD_mem hlt] at hn
      have hcell2 : (W2.drewN q).cell? (ad.add k) = some (.int .i64 (l.getD k 0)) := by
        have e : (ad.add k).block = ad.block := by unfold Addr.add; split <;> rfl
        have := hB2.cell (p := ad.add k) (by rw [e]; exact hfz _ rfl (by omega))
        simpa [rd] using this.trans hcell
      have HIC := Lib.hid ((isCurrent_eq (l.getD k 0)).trans (by rw [show okRange (l.getD k 0) 0 1000 = true from (fOk_iff _).2 hn]))
      clear hn
      generalize l.getD k 0 = n at *
      gi_wp2
      refine ⟨trivial, rfl, callsIn_wide.2 ((fuse_isCurrent.calls n true _ HIC.out).mono ?_)⟩
      rintro e w3 ⟨rfl, q3, rfl⟩
      gi_wp2
      go_roundw
      case rel => exact ⟨k + 1, by omega, rfl, by go_num, q + q3, by simp⟩
      case measure => simp [intOf]; omega
    · have hB3 : Below w.heap.size w (W2.drewN q) := pw_below_drewN hB2 q
      have b13 : (W2.drewN q).heap[w.heap.size + 1]? = some (.cells #[.int .i64 0] 3 (0, 0)) := b1
      have b23 : (W2.drewN q).heap[w.heap.size + 1 + 1]? = some (.cells #[.int .i64 0] 26 (0, 0)) := b2
      have b33 : (W2.drewN q).heap[bw]? = some (.cells #[.int .i64 r, .int .i64 h, .int .i64 0] 42 (0, 0)) := b3
      have hsz3 : (W2.drewN q).heap.size = bw + 1 := hsz2
      generalize W2.drewN q = W3 at *
      clear hB2 b1 b2 b3 hsz2
      have c0 := blk_cell b33 0
      have c1 := blk_cell b33 1
      have c2 := blk_cell b33 2
      simp only [List.getElem?_toArray, List.getElem?_cons_zero, List.getElem?_cons_succ] at c0 c1 c2
      gi_wp2
      refine ⟨trivial, rfl, callsIn_wide.2 ((ticks_calls r h 0 A l.length c _).mono ?_)⟩
      rintro e w4 ⟨rfl, rfl⟩
      gi_wp2
      obtain ⟨W4, hW4⟩ : ∃ W4, (W3.alloc (.cells #[.int .i64 r, .int .i64 h, .int .i64 0] 42)).alloc (.cells #[.slice A l.length c] 24) = W4 := ⟨_, rfl⟩
      have hsz4 : W4.heap.size = bw + 3 := by rw [← hW4]; simp; omega
      have hB4 : Below w.heap.size w W4 := by rw [← hW4]; exact below_alloc (below_alloc hB3 _) _
      have b14 : W4.heap[w.heap.size + 1]? = some (.cells #[.int .i64 0] 3 (0, 0)) := by
        rw [← hW4]; exact (Below.heap_alloc _ _ _ (by simp; omega)).trans ((Below.heap_alloc _ _ _ (by omega)).trans b13)
      have b24 : W4.heap[w.heap.size + 1 + 1]? = some (.cells #[.int .i64 0] 26 (0, 0)) := by
        rw [← hW4]; exact (Below.heap_alloc _ _ _ (by simp; omega)).trans ((Below.heap_alloc _ _ _ (by omega)).trans b23)
      have bwx : W4.heap[bw + 1]? = some (.cells #[.int .i64 r, .int .i64 h, .int .i64 0] 42 (0, 0)) := by
        rw [← hW4]; refine (Below.heap_alloc _ _ _ (by simp; omega)).trans ?_
        have := heap_alloc_new W3 (.cells #[.int .i64 r, .int .i64 h, .int .i64 0] 42); rwa [hsz3] at this
      have bsx : W4.heap[bw + 1 + 1]? = some (.cells #[.slice A l.length c] 24 (0, 0)) := by
        rw [← hW4]
        have := heap_alloc_new (W3.alloc (.cells #[.int .i64 r, .int .i64 h, .int .i64 0] 42)) (.cells #[.slice A l.length c] 24); rwa [World.size_alloc, hsz3] at this
      rw [hW4]
      clear hW4 hB3 b13 b23 b33 c0 c1 c2 hsz3
      have hrr : 0 ≤ r ∧ r ≤ 1000 := by
        have := hok'.out
        unfold okFuse at this
        simp only [Bool.or_eq_true, Bool.and_eq_true, beq_iff_eq, decide_eq_true_eq] at this
        omega
      have hC4 : (Kd.int .i64).C W4 A l.length l := Kd.C_below hC hB4
      refine wp_rangeFunc_iter (g := .tmp 35) (ps := #[36, 37]) (a := ⟨?T0, []⟩) (gf := 30) (lb := #[.pointer (some ⟨bw + 1 + 1, 0, none⟩), .pointer (some ⟨bw + 1, 0, none⟩)]) ?hg (enters_of Try.func30 (by kernel_rfl) rfl)
        (T := fun k => k = bw + 1) (R := fun k => k < w.heap.size ∨ k = bw + 1 + 1 ∨ k = bw + 1) (fun k hk => by omega)
        (ticks_iter r h hrr A l c W4 (bw + 1) (bw + 1 + 1) (by omega) (by omega) (by omega) bwx bsx w.heap.size (by omega) (by omega) hfz hC4 hall hlen) (fun _ => rfl)
        (fun i W => (∀ j, j < i → ¬ h < fHeatAt r 0 l (j + 1)) ∧ W.heap[w.heap.size + 1]? = some (.cells #[.int .i64 0] 3 (0, 0)) ∧ W.heap[w.heap.size + 1 + 1]? = some (.cells #[.int .i64 0] 26 (0, 0)) ∧ Below w.heap.size w W ∧ bw + 3 ≤ W.heap.size)
        (fun c i W => (c = .ret ∧ ∃ j, i = j + 1 ∧ (∀ j', j' < j → ¬ h < fHeatAt r 0 l (j' + 1)) ∧ h < fHeatAt r 0 l (j + 1) ∧ W.heap[w.heap.size + 1]? = some (.cells #[.int .i64 j] 3 (0, 0))) ∧ W.heap[w.heap.size + 1 + 1]? = some (.cells #[.int .i64 0] 26 (0, 0)) ∧ Below w.heap.size w W ∧ bw + 3 ≤ W.heap.size)
        (fun i W W' hI ht => by
          obtain ⟨i1, i2, i3, i4, i5⟩ := hI
          exact ⟨i1, (ht.block _ (by omega) (by omega)).trans i2, (ht.block _ (by omega) (by omega)).trans i3, ht.below i4 i4.size (fun k hk => by omega), by have := ht.size; omega⟩)
        (fun c i W W' hI ht => by
          obtain ⟨⟨i1, j, i2, i3, i4, i5⟩, i6, i7, i8⟩ := hI
          exact ⟨⟨i1, j, i2, i3, i4, (ht.block _ (by omega) (by omega)).trans i5⟩, (ht.block _ (by omega) (by omega)).trans i6, ht.below i7 i7.size (fun k hk => by omega), by have := ht.size; omega⟩)
        ⟨by simp, b14, b24, hB4, by omega⟩
        (fun i a1 W => ∃ Bx, a1 = ⟨(((Array.setIfInBounds ?T0 36 (.int .i64 (i : Int))).setIfInBounds 37 (.agg #[.int .i64 r, .int .i64 h, .int .i64 (fHeatAt r 0 l (i + 1))])).setIfInBounds 10 (.int .i64 (i : Int))).setIfInBounds 11 (.pointer (some ⟨Bx, 0, none⟩)), []⟩ ∧
          W.heap[Bx]? = some (.cells #[.int .i64 r, .int .i64 h, .int .i64 (fHeatAt r 0 l (i + 1))] 42 (0, 0)) ∧ bw + 5 ≤ Bx ∧ (∀ j, j < i → ¬ h < fHeatAt r 0 l (j + 1)) ∧ W.heap[w.heap.size + 1]? = some (.cells #[.int .i64 0] 3 (0, 0)) ∧ W.heap[w.heap.size + 1 + 1]? = some (.cells #[.int .i64 0] 26 (0, 0)) ∧ Below w.heap.size w W ∧ bw + 3 ≤ W.heap.size)
        (fun i a1 W W' hA ht => by
          obtain ⟨Bx, i0, ib, il, i1, i2, i3, i4, i5⟩ := hA
          have hbx : Bx < W.heap.size := (Array.getElem?_eq_some_iff.1 ib).1
          exact ⟨Bx, i0, (ht.block _ hbx (by omega)).trans ib, il, i1, (ht.block _ (by omega) (by omega)).trans i2, (ht.block _ (by omega) (by omega)).trans i3, ht.below i4 i4.size (fun k hk => by omega), by have := ht.size; omega⟩)
        ?assign ?body ?done ?stop
      case hg => rfl
      case assign =>
        intro ll i hi W hI hsz K hK
        obtain ⟨i1, i2, i3, i4, i5⟩ := hI
        rw [tickL_get]
        dsimp only [tickE]
        gi_wp2
        refine hK _ _ ⟨W.heap.size, rfl, heap_alloc_new _ _, by omega, i1, (Below.heap_alloc _ _ _ (by omega)).trans i2, (Below.heap_alloc _ _ _ (by omega)).trans i3, below_alloc i4 _, by simp; omega⟩ (Turns.alloc _ _ _)
      case body =>
        rintro ll i hi a1 W ⟨Bx, rfl, ib, il, i1, i2, i3, i4, i5⟩ hsz
        have c0 := blk_cell ib 0
        have c1 := blk_cell ib 1
        have c2 := blk_cell ib 2
        simp only [List.getElem?_toArray, List.getElem?_cons_zero, List.getElem?_cons_succ] at c0 c1 c2
        simp only [List.setIfInBounds_toArray, List.set_cons_zero, List.set_cons_succ]
        have I1 := Lib.hid i1
        clear i1
        by_cases hm : h < fHeatAt r 0 l (i + 1)
        · have HM : Hid (fuse_warm_isMelted.f r h (fHeatAt r 0 l (i + 1)) = some true) := Lib.hid (by unfold fuse_warm_isMelted.f; simp; omega)
          gi_wp2
          refine ⟨trivial, rfl, CallsIn.inRound ll (callsIn_wide.2 ((fuse_warm_isMelted.calls r h _ true _ HM.out).mono ?_))⟩
          rintro e w5 ⟨rfl, hb⟩
          have x1 := (hb.block (w.heap.size + 1) (by omega)).trans i2
          have x2 := (hb.block (w.heap.size + 1 + 1) (by omega)).trans i3
          have c3 := blk_cell x1 0
          have c4 := blk_cell x2 0
          have f3 := blk_frozen x1 0
          have f4 := blk_frozen x2 0
          simp only [List.getElem?_toArray, List.getElem?_cons_zero, List.getElem?_cons_succ] at c3 c4
          clear c0 c1 c2
          gi_wp2
          have hS := hb.size
          refine ⟨((Turns.of_below _ hb).trans (Turns.setCell _ _ ⟨w.heap.size + 1, 0, none⟩ _ (by simp; omega))).trans (Turns.setCell _ _ ⟨w.heap.size + 1 + 1, 0, none⟩ _ (by simp; omega)), ⟨rfl, i, rfl, I1.out, hm, ?_⟩, ?_, ?_, ?_⟩
          · exact (Below.heap_setCell _ _ _ _ (by simp)).trans (blk_put x1 0 _ rfl)
          · exact blk_put ((Below.heap_setCell _ _ _ _ (by simp)).trans x2) 0 _ rfl
          · exact below_set (below_set (below_step i4 hb) (by omega)) (by omega)
          · simp [World.setCell]; omega
        · have HM : Hid (fuse_warm_isMelted.f r h (fHeatAt r 0 l (i + 1)) = some false) := Lib.hid (by unfold fuse_warm_isMelted.f; simp; omega)
          gi_wp2
          refine ⟨trivial, rfl, CallsIn.inRound ll (callsIn_wide.2 ((fuse_warm_isMelted.calls r h _ false _ HM.out).mono ?_))⟩
          rintro e w5 ⟨rfl, hb⟩
          clear c0 c1 c2
          gi_wp2
          have hS := hb.size
          refine ⟨Turns.of_below _ hb, fun j hj => ?_, (hb.block _ (by omega)).trans i2, (hb.block _ (by omega)).trans i3, below_step i4 hb, by omega⟩
          by_cases e : j = i
          · subst e; exact hm
          · exact I1.out j (by omega)
      case done =>
        rintro W ⟨i1, i2, i3, i4, i5⟩ hD
        rw [hsz4] at hD
        have I1 := Lib.hid i1
        clear i1
        have c3 := blk_cell i2 0
        have c4 := blk_cell i3 0
        have f3 := blk_frozen i2 0
        have f4 := blk_frozen i3 0
        simp only [List.getElem?_toArray, List.getElem?_cons_zero, List.getElem?_cons_succ] at c3 c4
        gi_wp2
        have hS1 : (((W.setCell ⟨w.heap.size + 1, 0, none⟩ (.int .i64 (-1))).setCell ⟨w.heap.size + 1 + 1, 0, none⟩ (.int .i64 0))).heap[(bw + 3)]? = some (.deferred (some [])) :=
          (Below.heap_setCell _ _ _ _ (by simp; omega)).trans ((Below.heap_setCell _ _ _ _ (by simp; omega)).trans hD)
        have y1 : (((W.setCell ⟨w.heap.size + 1, 0, none⟩ (.int .i64 (-1))).setCell ⟨w.heap.size + 1 + 1, 0, none⟩ (.int .i64 0))).heap[w.heap.size + 1]? = some (.cells #[.int .i64 (-1)] 3 (0, 0)) :=
          (Below.heap_setCell _ _ _ _ (by simp)).trans (blk_put i2 0 _ rfl)
        have y2 : (((W.setCell ⟨w.heap.size + 1, 0, none⟩ (.int .i64 (-1))).setCell ⟨w.heap.size + 1 + 1, 0, none⟩ (.int .i64 0))).heap[w.heap.size + 1 + 1]? = some (.cells #[.int .i64 0] 26 (0, 0)) :=
          blk_put ((Below.heap_setCell _ _ _ _ (by simp)).trans i3) 0 _ rfl
        have hBf := below_set (j := 0) (v := .int .i64 0) (below_set (j := 0) (v := .int .i64 (-1)) i4 (g := w.heap.size + 1) (by omega)) (g := w.heap.size + 1 + 1) (by omega)
        generalize ((W.setCell ⟨w.heap.size + 1, 0, none⟩ (.int .i64 (-1))).setCell ⟨w.heap.size + 1 + 1, 0, none⟩ (.int .i64 0)) = W6 at *
        refine ⟨by simp, .inl ⟨_, _, rfl, run_takeDeferred hS1, ?_⟩⟩
        have z1 := blk_cell ((World.putObj_heap_other (by omega)).trans y1 : (W6.putObj (bw + 3) (.deferred none)).heap[w.heap.size + 1]? = _) 0
        have z2 := blk_cell ((World.putObj_heap_other (by omega)).trans y2 : (W6.putObj (bw + 3) (.deferred none)).heap[w.heap.size + 1 + 1]? = _) 0
        simp only [List.getElem?_toArray, List.getElem?_cons_zero] at z1 z2
        refine ⟨.tuple #[.int .i64 (-1), .int .i64 0], ?_, ?_, ?_⟩
        · simp [results, Try.results13, go_sem, z1, z2]
        · rw [fMelt_none (fun j hj => by have := I1.out j (by rw [tickL_length]; exact hj); omega)]; rfl
        · exact (Turns.putObj (fun k => k = (bw + 3)) W6 (bw + 3) (.deferred none) rfl).below hBf hBf.size (fun k hk => by omega)
      case stop =>
        rintro c' i W hi ⟨⟨rfl, j, rfl, I1, hm, y1⟩, y2, hBf, hS⟩ hD
        rw [hsz4] at hD
        gi_wp2
        refine ⟨by simp, .inl ⟨_, _, rfl, run_takeDeferred hD, ?_⟩⟩
        have z1 := blk_cell ((World.putObj_heap_other (by omega)).trans y1 : (W.putObj (bw + 3) (.deferred none)).heap[w.heap.size + 1]? = _) 0
        have z2 := blk_cell ((World.putObj_heap_other (by omega)).trans y2 : (W.putObj (bw + 3) (.deferred none)).heap[w.heap.size + 1 + 1]? = _) 0
        simp only [List.getElem?_toArray, List.getElem?_cons_zero] at z1 z2
        rw [tickL_length] at hi
        refine ⟨.tuple #[.int .i64 j, .int .i64 0], ?_, ?_, ?_⟩
        · simp [results, Try.results13, go_sem, z1, z2]
        · rw [fMelt_some (by omega) (fun j' hj' => by have := I1 j' hj'; omega) hm]; rfl
        · exact (Turns.putObj (fun k => k = (bw + 3)) W (bw + 3) (.deferred none) rfl).below hBf hBf.size (fun k hk => by omega)

theorem melts_long (r h : Int) (A : Option Addr) (c : Nat) (l : List Int) (w : World) (hlen : 10000 < l.length) :
    Calls Try.prog 13 #[.agg #[.int .i64 r, .int .i64 h], .slice A l.length c] w fun e w' => e = .returned (.tuple #[.int .i64 0, .int .i64 2]) ∧ Below w.heap.size w w' := by
  have hl64 : 10000 < (l.length : Int) := by omega
  go_enter Try.func13, Try.ntmps13
  go_wp2_with fail
  exact bodyPost_ret (v := .tuple #[.int .i64 0, .int .i64 2]) (by simp [results, Try.results13, go_sem]) rfl ⟨rfl, by
    repeat (first | exact Below.refl _ _ | refine below_set ?_ (by simp) | apply below_alloc | apply pw_below_drewN)⟩
set_option maxHeartbeats 1000000 in
theorem melts_bad (r h r1 r2 r3 e0 : Int) (A : Option Addr) (c : Nat) (l : List Int) (w : World) (hC : (Kd.int .i64).C w A l.length l) (hlen : l.length ≤ 10000)
    (hst : fuse_start.f r h 0 0 = some (r1, r2, r3, e0)) (he : (if l.all fOk = true then e0 else 1) = 1) :
    Calls Try.prog 13 #[.agg #[.int .i64 r, .int .i64 h], .slice A l.length c] w fun e w' => e = .returned (.tuple #[.int .i64 0, .int .i64 1]) ∧ Below w.heap.size w w' := by
  have HSt := Lib.hid hst
  have hl64 : (l.length : Int) ≤ 10000 := by omega
  have hfz := C_block_lt hC
  have HE := Lib.hid he
  clear hst he
  go_enter Try.func13, Try.ntmps13
  go_wp2_with fail
  refine (fuse_start.calls r h 0 0 _ _ _ _ _ HSt.out).mono ?_
  rintro e w1 ⟨rfl, hb⟩
  obtain ⟨hc1, hf1⟩ := hb_cells hb
  have hz := hb.size
  simp only [World.size_alloc] at hz hc1 hf1
  go_wp2_with fail
  obtain ⟨W2, hW2⟩ : ∃ W2, w1.alloc (.cells #[.int .i64 r1, .int .i64 r2, .int .i64 r3] 42) = W2 := ⟨_, rfl⟩
  have hB1 : Below w.heap.size w w1 := (((Below.refl _ w).alloc (Nat.le_refl _) _).alloc (by simp) _).alloc (by simp; omega) _ |>.trans (hb.mono (by simp; omega))
  have hB2 : Below w.heap.size w W2 := by rw [← hW2]; exact hB1.alloc (by omega) _
  have b1 : W2.heap[w.heap.size + 1]? = some (.cells #[.int .i64 0] 3 (0, 0)) := by
    rw [← hW2]
    refine (Below.heap_alloc _ _ _ (by omega)).trans ((hb.block _ (by simp)).trans ?_)
    refine (Below.heap_alloc _ _ _ (by simp)).trans ?_
    have := heap_alloc_new (w.alloc (.cells #[.int .i64 r, .int .i64 h] 23)) (.cells #[.int .i64 0] 3); rwa [World.size_alloc] at this
  have b2 : W2.heap[w.heap.size + 1 + 1]? = some (.cells #[.int .i64 0] 26 (0, 0)) := by
    rw [← hW2]
    refine (Below.heap_alloc _ _ _ (by omega)).trans ((hb.block _ (by simp)).trans ?_)
    have := heap_alloc_new ((w.alloc (.cells #[.int .i64 r, .int .i64 h] 23)).alloc (.cells #[.int .i64 0] 3)) (.cells #[.int .i64 0] 26); rwa [World.size_alloc, World.size_alloc] at this
  rw [hW2]
  clear hW2 hc1 hf1 hb hz
  generalize hbw : w1.heap.size = bw at *
  clear hbw hB1
  go_loopw [7, 22] (fun e i wr => ∃ k : Nat, k ≤ l.length ∧ e = .int .i64 (if (l.take k).all fOk = true then e0 else 1) ∧ i = .int .i64 k ∧ ∃ q, wr = W2.drewN q) (fun _ i _ => l.length - (intOf i).toNat)
  case atStart => exact ⟨0, Nat.zero_le _, by simp, rfl, 0, rfl⟩
  case round =>
    obtain ⟨k, hk, rfl, rfl, q, rfl⟩ := hrel
    by_cases hlt : k < l.length
    · obtain ⟨ad, hAd, hcell⟩ := Kd.at_int hC (k : Int) (by omega) (by omega)
      subst hAd
      have hcell2 : (W2.drewN q).cell? (ad.add k) = some (.int .i64 (l.getD k 0)) := by
        have e : (ad.add k).block = ad.block := by unfold Addr.add; split <;> rfl
        have := hB2.cell (p := ad.add k) (by rw [e]; exact hfz _ rfl (by omega))
        simpa [rd] using this.trans hcell
      have hIC := isCurrent_eq (l.getD k 0)
      have HT : Hid ((l.take (k + 1)).all fOk = ((l.take k).all fOk && okRange (l.getD k 0) 0 1000)) := Lib.hid (by
        rw [List.take_succ_eq_append_getElem hlt, List.all_append, getD_mem hlt]; simp [fOk])
      obtain ⟨E, hE⟩ : ∃ E, (if (l.take k).all fOk = true then e0 else 1) = E := ⟨_, rfl⟩
      rw [hE]
      have HEE := Lib.hid hE
      clear hE
      generalize l.getD k 0 = n at *
      cases hn : okRange n 0 1000
      · rw [hn] at hIC
        have HIC := Lib.hid hIC
        have HN := Lib.hid hn
        clear hIC hn
        go_wp2_with fail
        refine (fuse_isCurrent.calls n false _ HIC.out).mono ?_
        rintro e w3 ⟨rfl, q3, rfl⟩
        go_wp2_with fail
        go_roundw
        case rel => exact ⟨k + 1, by omega, by rw [HT.out, HN.out]; simp, by go_num, q + q3, by simp⟩
        case measure => simp [intOf]; omega
      · rw [hn] at hIC
        have HIC := Lib.hid hIC
        have HN := Lib.hid hn
        clear hIC hn
        go_wp2_with fail
        refine (fuse_isCurrent.calls n true _ HIC.out).mono ?_
        rintro e w3 ⟨rfl, q3, rfl⟩
        go_wp2_with fail
        go_roundw
        case rel => exact ⟨k + 1, by omega, by rw [HT.out, HN.out, Bool.and_true, HEE.out], by go_num, q + q3, by simp⟩
        case measure => simp [intOf]; omega
    · have b13 : (W2.drewN q).heap[w.heap.size + 1]? = some (.cells #[.int .i64 0] 3 (0, 0)) := b1
      have b23 : (W2.drewN q).heap[w.heap.size + 1 + 1]? = some (.cells #[.int .i64 0] 26 (0, 0)) := b2
      have hB3 : Below w.heap.size w (W2.drewN q) := pw_below_drewN hB2 q
      obtain rfl : k = l.length := by omega
      have hT : (if (l.take l.length).all fOk = true then e0 else 1) = 1 := by rw [List.take_length]; exact HE.out
      rw [hT]
      generalize W2.drewN q = W3 at *
      clear hB2 b1 b2 hT
      have c3 := blk_cell b13 0
      have c4 := blk_cell b23 0
      have f3 := blk_frozen b13 0
      have f4 := blk_frozen b23 0
      simp only [List.getElem?_toArray, List.getElem?_cons_zero] at c3 c4
      go_wp2_with fail
      exact bodyPost_ret (v := .tuple #[.int .i64 0, .int .i64 1]) (by simp [results, Try.results13, go_sem, c3, c4]) rfl ⟨rfl, by
        repeat (first | exact hB3 | refine below_set ?_ (by omega))⟩
def fuse_Melts.f (a0_0 : Int) (a0_1 : Int) (l1 : List Int) : Option (Int × Int) :=
  if 10000 < l1.length then some (0, 2) else if okFuse a0_0 a0_1 && l1.all fOk then some (meltsVal (fMelt a0_0 a0_1 l1), 0) else some (0, 1)
theorem fuse_Melts.calls (a0_0 : Int) (a0_1 : Int) (A1 : Option Addr) (c1 : Nat) (l1 : List Int) (r1 : Int) (r2 : Int) (w : World) (hr1 : Kd.C (Kd.int .i64) w A1 l1.length l1) (_hc1 : l1.length ≤ c1) (h : fuse_Melts.f a0_0 a0_1 l1 = some (r1, r2)) :
    Calls Try.prog 13 #[.agg #[.int .i64 a0_0, .int .i64 a0_1], .slice A1 l1.length c1] w fun e w' => e = .returned (.tuple #[.int .i64 r1, .int .i64 r2]) ∧ Below w.heap.size w w' := by
  unfold fuse_Melts.f at h
  by_cases hl : 10000 < l1.length
  · rw [if_pos hl] at h
    simp only [Option.some.injEq, Prod.mk.injEq] at h
    obtain ⟨rfl, rfl⟩ := h
    exact melts_long _ _ _ _ _ w hl
  · rw [if_neg hl] at h
    cases c : okFuse a0_0 a0_1
    · rw [c] at h
      simp only [Bool.false_and, Bool.false_eq_true, if_false, Option.some.injEq, Prod.mk.injEq] at h
      obtain ⟨rfl, rfl⟩ := h
      exact melts_bad _ _ _ _ _ 1 _ _ _ w hr1 (by omega) ((start_zero _ _).trans (by rw [c]; rfl)) (by split <;> rfl)
    · cases d : l1.all fOk
      · rw [c, d] at h
        simp only [Bool.true_and, Bool.false_eq_true, if_false, Option.some.injEq, Prod.mk.injEq] at h
        obtain ⟨rfl, rfl⟩ := h
        exact melts_bad _ _ _ _ _ 0 _ _ _ w hr1 (by omega) ((start_zero _ _).trans (by rw [c]; rfl)) (by rw [d]; rfl)
      · rw [c, d] at h
        simp only [Bool.true_and, if_true, Option.some.injEq, Prod.mk.injEq] at h
        obtain ⟨rfl, rfl⟩ := h
        exact melts_good _ _ _ _ _ w hr1 (by omega) c (fun n hn => (fOk_iff n).1 (List.all_eq_true.1 d n hn))

end Go.Proofs.Ytnfkddanbhibbaa.Q
