import Derived.Test.YtpdmnineampimaaYe
import Derived.Test.YtpdmnineampimaaYQx14
import Derived.Test.YtpdmnineampimaaYQx15
import Derived.Test.YtpdmnineampimaaYQx16
import Derived.Test.YtpdmnineampimaaYQx17
import Derived.Test.YtpdmnineampimaaYQx18
import Derived.Test.YtpdmnineampimaaYQx20
import Derived.Test.YtpdmnineampimaaYQx21
import Derived.Test.YtpdmnineampimaaYQx22
import Derived.Test.YtpdmnineampimaaYQx23
set_option linter.unusedVariables false
set_option linter.unusedSimpArgs false
namespace Go.Proofs.Ytpdmnineampimaa.Q
open Go.RowKit Go.Proofs.YtpdmnineampimaaW.PrintWords Go.Proofs.YtpdmnineampimaaW.PrintLast Go.Proofs.YtpdmnineampimaaW.PrintMore
attribute [local go_sem] max2_int min2_int max_two min_two max_three min_three max_four min_four
def andTo (b0 : Bool) (p : Nat → Bool) : Nat → Bool
  | 0 => b0
  | k + 1 => andTo b0 p k && p k
def ins (a b c : Int) : Bool := decide (b ≤ a) && decide (a ≤ c)
def condB (x : S48) (i : Int) : Bool :=
  (decide (i = 0) && decide (x.f1 = -1) || decide (0 < i) && ins x.f1 0 (i - 1)) &&
  (decide (x.f4.f0 = 0) && decide (x.f4.f1 = 0) || ins x.f4.f0 1 1000 && ins x.f4.f1 0 1000000) &&
  (decide (x.f5.f0 = 0) && decide (x.f5.f1 = 0) && decide (x.f5.f2 = 0) && decide (x.f5.f3 = 0) && decide (x.f5.f4 = 0) ||
    ins x.f5.f0 0 200000 && ins x.f5.f1 (x.f5.f0 + 1) 200000 && ins x.f5.f2 0 1000 && ins x.f5.f3 0 1000 && ins x.f5.f4 1 1000000) &&
  ins x.f2 1 1000 && ins x.f3 1 1000
def contB (n1 : Nat) (l2 : List S84) (i : Nat) : Bool := ins (rd_T84 l2 i).f1 0 ((n1 : Int) - 1) && ins (rd_T84 l2 i).f2 1 9 && ins (rd_T84 l2 i).f3 1 1000000 && !decide ((rd_T84 l2 i).f3 ∈ ((l2.take i).map S84.f3).reverse)
def chgB (n0 n1 : Nat) (x : S42) : Bool := ins x.f1 0 ((n0 : Int) - 1) && ins x.f7 0 ((n1 : Int) - 1) && ins x.f2 1 7 && ins x.f3 1 80 && ins x.f4 x.f3 80 && ins x.f5 1 80 && (decide (x.f6 = 0) || ins x.f6 x.f3 x.f4)
def nmStep (st : Bool × List (List UInt8)) (x : ByteArray) : Bool × List (List UInt8) :=
  if st.1 then ((site_named.f x).getD false && !decide (x.data.toList ∈ st.2), x.data.toList :: st.2) else st
def validB (l0 : List S48) (l1 : List S62) (l2 : List S84) (l3 : List S42) (l4 : List S87) : Bool :=
  ins l0.length 1 16 && decide (l1.length ≤ 8) && decide (l2.length ≤ 32) && decide (l3.length ≤ 16) && decide (l4.length ≤ 24) &&
  andTo (andTo (andTo (andTo (((l0.map S48.f0) ++ (l1.map S62.f0) ++ (l2.map S84.f0) ++ (l3.map S42.f0) ++ (l4.map S87.f0)).foldl nmStep (true, [])).1
    (fun i => condB (rd_T48 l0 i) i) l0.length) (contB l1.length l2) l2.length) (fun i => chgB l0.length l1.length (rd_T42 l3 i)) l3.length) (fun i => ins (rd_T87 l4 i).f1 0 ((l3.length : Int) - 1)) l4.length
def fitsB (l0 : List S48) (l1 : List S62) (l2 : List S84) (l3 : List S42) (l4 : List S87) : Bool :=
  decide ((∀ x ∈ l0, x.f0.size ≤ maxLen) ∧ (∀ x ∈ l1, x.f0.size ≤ maxLen) ∧ (∀ x ∈ l2, x.f0.size ≤ maxLen) ∧ (∀ x ∈ l3, x.f0.size ≤ maxLen) ∧ (∀ x ∈ l4, x.f0.size ≤ maxLen) ∧ (∀ x ∈ l2, (Lit.int .i64 x.f3).wf = true))
def upL (l0 : List S48) : Nat → Int → List Int
  | 0, _ => []
  | k + 1, at_ => if at_ < 0 then [] else at_ :: upL l0 k (rd_T48 l0 at_).f1
def bitOf (ph : Int) (p : Nat) : Bool := decide (ph / 2 ^ p % 2 = 1)
def bump (x : S55) (ph a : Int) : S55 := ⟨if bitOf ph 0 then wrap64 (x.f0 + a) else x.f0, if bitOf ph 1 then wrap64 (x.f1 + a) else x.f1, if bitOf ph 2 then wrap64 (x.f2 + a) else x.f2⟩
def bumpAt (ph a : Int) (out : List S55) (at_ : Int) : List S55 := out.set at_.toNat (bump (rd_T55 out at_) ph a)
def loadsTo (l0 : List S48) (l3 : List S42) (amps : List Int) : Nat → List S55
  | 0 => List.replicate l0.length z55
  | i + 1 => (upL l0 17 (rd_T42 l3 i).f1).foldl (bumpAt (rd_T42 l3 i).f2 (rd amps i)) (loadsTo l0 l3 amps i)
def loadsV (l0 : List S48) (l3 : List S42) (amps : List Int) : List S55 := loadsTo l0 l3 amps l3.length
def belowL (l0 : List S48) (l3 : List S42) (k : Int) : List Int :=
  ((List.range l3.length).filter fun (i : Nat) => decide (k ∈ upL l0 17 (rd_T42 l3 (i : Int)).f1)).map fun (i : Nat) => (i : Int)
theorem is_walk (a : ByteArray) (r : Bool) (seen : List (List UInt8)) (bt gm n : Nat) (w : World) (ha : a.size ≤ maxLen) (h : site_named.f a = some r) (hbt : w.heap[bt]? = some (.cells #[.map (some gm)] 78 (0, 0)))
    (hS : SeenS Try.prog 9 4 w gm n seen) (hn : n < maxLen) (hgm : gm < w.heap.size) (hne : gm ≠ bt) :
    Calls Try.prog 40 #[.string a, .pointer (some ⟨bt, 0, none⟩)] w fun e w' => e = .returned (.bool (r && !decide (a.data.toList ∈ seen))) ∧ SeenS Try.prog 9 4 w' gm (n + 1) (a.data.toList :: seen) ∧ w.grownBy w' (some gm) := by
  have H := Lib.hid h
  clear h
  have hbl : bt < w.heap.size := (Array.getElem?_eq_some_iff.1 hbt).1
  go_enter Try.func40, Try.ntmps40
  go_wp2_with fail
  refine (site_named.calls a _ _ H.out).mono ?_
  rintro e w1 ⟨rfl, hb⟩
  have hg1 : w.grownBy w1 none := ⟨hb.os, hb.tape, hb.output, hb.size, fun k hk _ => hb.block k hk⟩
  have hS1 := hS.kept hg1 (by simp)
  have hbt1 : w1.heap[bt]? = some (.cells #[.map (some gm)] 78 (0, 0)) := (hb.block _ hbl).trans hbt
  have c0 := blk_cell hbt1 0
  simp only [List.getElem?_toArray, List.getElem?_cons_zero] at c0
  have hlook := hS1.look Try.underlying78 Try.underlying9 Try.underlying4 (by kernel_rfl) a ha
  obtain ⟨w2, hup, hS2, hgr⟩ := hS1.put Try.underlying78 Try.underlying9 Try.underlying4 hn a ha
  have HS2 := Lib.hid hS2
  have HG := Lib.hid (show w.grownBy w2 (some gm) from ⟨hgr.os.trans hg1.os, hgr.tape.trans hg1.tape, hgr.output.trans hg1.output, Nat.le_trans hg1.size hgr.size, fun k hk hne => (hgr.block k (Nat.lt_of_lt_of_le hk hg1.size) hne).trans (hg1.block k hk (by simp))⟩)
  clear hS hS1 hS2 hgr hg1
  generalize hd : decide (a.data.toList ∈ seen) = d at *
  cases r
  · go_wp2_with fail
    go_ret
    exact ⟨rfl, HS2.out, HG.out⟩
  · go_wp2_with fail
    go_ret
    exact ⟨by simp [hd], HS2.out, HG.out⟩
theorem cell_lt {w : World} {a : Addr} {v : Value} (h : w.cell? a = some v) : a.block < w.heap.size := by
  rcases Nat.lt_or_ge a.block w.heap.size with h1 | h1
  · exact h1
  · rw [World.cell?, Array.getElem?_eq_none h1] at h; cases h
theorem ite_isSome {α : Type} (c : Prop) [Decidable c] (a : α) (y : Option α) (h : y.isSome = true) : (if c then some a else y).isSome = true := by
  split
  · rfl
  · exact h
theorem named_some (a : ByteArray) : ∃ r, site_named.f a = some r := by
  have h0 : ∃ k, parser_kindOf.f a = some k := Option.isSome_iff_exists.1 (by
    unfold parser_kindOf.f
    repeat (first | rfl | apply ite_isSome))
  have h1 : ∃ k, parser_isAttr.f a = some k := Option.isSome_iff_exists.1 (by
    unfold parser_isAttr.f
    repeat (first | rfl | apply ite_isSome))
  have h2 : ∃ k, parser_isArticle.f a = some k := Option.isSome_iff_exists.1 (by
    unfold parser_isArticle.f
    repeat (first | rfl | apply ite_isSome))
  have h3 : ∃ k, parser_isWord.f a = some k := Option.isSome_iff_exists.1 (by
    unfold parser_isWord.f
    repeat (first | rfl | apply ite_isSome))
  obtain ⟨k0, h0⟩ := h0
  obtain ⟨k1, h1⟩ := h1
  obtain ⟨k2, h2⟩ := h2
  obtain ⟨k3, h3⟩ := h3
  refine Option.isSome_iff_exists.1 ?_
  unfold site_named.f parser_isName.f
  rw [h0, h1, h2, h3]
  simp only [Option.bind_some]
  (repeat' split) <;> rfl
structure NInv (w wr : World) (gm : Nat) (box : Array Value) (n : Nat) (seen : List (List UInt8)) : Prop where
  grown : w.grownBy wr (some gm)
  box : wr.heap[w.heap.size]? = some (.cells box 28 (0, 0))
  seenS : SeenS Try.prog 9 4 wr gm n seen
theorem gtrans {w w1 w2 : World} {row : Option Nat} (h : w.grownBy w1 row) (k : w1.grownBy w2 row) : w.grownBy w2 row :=
  ⟨k.os.trans h.os, k.tape.trans h.tape, k.output.trans h.output, Nat.le_trans h.size k.size, fun i hi hne => (k.block i (Nat.lt_of_lt_of_le hi h.size) hne).trans (h.block i hi hne)⟩
theorem NInv.lt {w wr : World} {gm n : Nat} {box : Array Value} {seen : List (List UInt8)} (h : NInv w wr gm box n seen) : w.heap.size < wr.heap.size := (Array.getElem?_eq_some_iff.1 h.box).1
theorem NInv.alloc {w wr : World} {gm n : Nat} {box : Array Value} {seen : List (List UInt8)} (h : NInv w wr gm box n seen) (o : Obj) : NInv w (wr.alloc o) gm box n seen :=
  ⟨gtrans h.grown (World.grownBy_alloc wr o _), (Below.heap_alloc _ _ _ h.lt).trans h.box, h.seenS.kept (World.grownBy_alloc wr o none) (by simp)⟩
theorem NInv.call {w wr w2 : World} {gm n m : Nat} {box : Array Value} {seen seen' : List (List UInt8)} (h : NInv w wr gm box n seen) (hgm : gm < w.heap.size) (g : wr.grownBy w2 (some gm)) (hs : SeenS Try.prog 9 4 w2 gm m seen') : NInv w w2 gm box m seen' :=
  ⟨gtrans h.grown g, (g.block _ h.lt (by simp; omega)).trans h.box, hs⟩
theorem NInv.mono {w wr : World} {gm n m : Nat} {box : Array Value} {seen : List (List UInt8)} (h : NInv w wr gm box n seen) (hnm : n ≤ m) : NInv w wr gm box m seen := by
  obtain ⟨D, hD, hs⟩ := h.seenS
  exact ⟨h.grown, h.box, D, hD.mono hnm, hs⟩
set_option maxHeartbeats 4000000 in
theorem names_walk (A0 A1 A2 A3 A4 : Option Addr) (c0 c1 c2 c3 c4 : Nat) (l0 : List S48) (l1 : List S62) (l2 : List S84) (l3 : List S42) (l4 : List S87) (bt gm : Nat) (w : World)
    (C0 : Kd.C k48 w A0 l0.length l0) (hA0 : ∀ ad, A0 = some ad → 0 < l0.length → ad.block ≠ gm) (hs0 : ∀ x ∈ l0, x.f0.size ≤ maxLen) (hl0 : l0.length ≤ 100)
    (C1 : Kd.C k62 w A1 l1.length l1) (hA1 : ∀ ad, A1 = some ad → 0 < l1.length → ad.block ≠ gm) (hs1 : ∀ x ∈ l1, x.f0.size ≤ maxLen) (hl1 : l1.length ≤ 100)
    (C2 : Kd.C k84 w A2 l2.length l2) (hA2 : ∀ ad, A2 = some ad → 0 < l2.length → ad.block ≠ gm) (hs2 : ∀ x ∈ l2, x.f0.size ≤ maxLen) (hl2 : l2.length ≤ 100)
    (C3 : Kd.C k42 w A3 l3.length l3) (hA3 : ∀ ad, A3 = some ad → 0 < l3.length → ad.block ≠ gm) (hs3 : ∀ x ∈ l3, x.f0.size ≤ maxLen) (hl3 : l3.length ≤ 100)
    (C4 : Kd.C k87 w A4 l4.length l4) (hA4 : ∀ ad, A4 = some ad → 0 < l4.length → ad.block ≠ gm) (hs4 : ∀ x ∈ l4, x.f0.size ≤ maxLen) (hl4 : l4.length ≤ 100)
    (hbt : w.heap[bt]? = some (.cells #[.map (some gm)] 78 (0, 0))) (hS : SeenS Try.prog 9 4 w gm 0 []) (hgm : gm < w.heap.size) (hne : gm ≠ bt) (S0 S1 S2 S3 S4 S5 : Bool × List (List UInt8)) (E0 : S0 = (true, []))
    (E1 : (l0.map S48.f0).foldl nmStep S0 = S1) (E2 : (l1.map S62.f0).foldl nmStep S1 = S2) (E3 : (l2.map S84.f0).foldl nmStep S2 = S3) (E4 : (l3.map S42.f0).foldl nmStep S3 = S4) (E5 : (l4.map S87.f0).foldl nmStep S4 = S5) :
    Calls Try.prog 39 #[.agg #[.slice A0 l0.length c0, .slice A1 l1.length c1, .slice A2 l2.length c2, .slice A3 l3.length c3, .slice A4 l4.length c4], .func (.func 40) #[] #[.pointer (some ⟨bt, 0, none⟩)]] w fun e w' => e = .returned (.bool S5.1) ∧ w.grownBy w' (some gm) ∧ ∃ n, SeenS Try.prog 9 4 w' gm n S5.2 := by
  have hbl : bt < w.heap.size := (Array.getElem?_eq_some_iff.1 hbt).1
  have HC0 := Lib.hid (And.intro C0 (And.intro hA0 (And.intro hs0 E1)))
  clear C0 hA0 hs0 E1
  have HC1 := Lib.hid (And.intro C1 (And.intro hA1 (And.intro hs1 E2)))
  clear C1 hA1 hs1 E2
  have HC2 := Lib.hid (And.intro C2 (And.intro hA2 (And.intro hs2 E3)))
  clear C2 hA2 hs2 E3
  have HC3 := Lib.hid (And.intro C3 (And.intro hA3 (And.intro hs3 E4)))
  clear C3 hA3 hs3 E4
  have HC4 := Lib.hid (And.intro C4 (And.intro hA4 (And.intro hs4 E5)))
  clear C4 hA4 hs4 E5
  have HS0 := Lib.hid (show NInv w (w.alloc (.cells #[.slice A0 l0.length c0, .slice A1 l1.length c1, .slice A2 l2.length c2, .slice A3 l3.length c3, .slice A4 l4.length c4] 28)) gm #[.slice A0 l0.length c0, .slice A1 l1.length c1, .slice A2 l2.length c2, .slice A3 l3.length c3, .slice A4 l4.length c4] 0 S0.2 from ⟨World.grownBy_alloc w _ _, by simpa using heap_alloc_new w (.cells #[.slice A0 l0.length c0, .slice A1 l1.length c1, .slice A2 l2.length c2, .slice A3 l3.length c3, .slice A4 l4.length c4] 28), by rw [E0]; exact hS.kept (World.grownBy_alloc w _ none) (by simp)⟩)
  have HB := Lib.hid hbt
  have e0 : S0.1 = true := by rw [E0]
  clear hS hbt E0
  go_enter Try.func39, Try.ntmps39
  go_wp2_with fail
  go_loopw [5, 19] (fun f i wr => ∃ (k n : Nat), k ≤ l0.length ∧ n ≤ 0 + k ∧ i = .int .i64 k ∧ f = .bool (((l0.take k).map S48.f0).foldl nmStep S0).1 ∧ NInv w wr gm #[.slice A0 l0.length c0, .slice A1 l1.length c1, .slice A2 l2.length c2, .slice A3 l3.length c3, .slice A4 l4.length c4] n (((l0.take k).map S48.f0).foldl nmStep S0).2) (fun _ i _ => l0.length - (intOf i).toNat)
  case atStart => exact ⟨0, 0, by omega, by omega, rfl, by simp [e0], HS0.out⟩
  case round =>
    obtain ⟨k, n, hk, hn, rfl, rfl, hI⟩ := hrel
    by_cases hlt : k < l0.length
    · obtain ⟨ad, hAd, q0, q1, q2, q3, q4, q5, q6, q7, q8, q9, q10⟩ := at_T48 HC0.out.1 (k : Int) (by omega) (by omega)
      have eb : (ad.add ((k : Int).toNat * 11)).block = ad.block := by unfold Addr.add; split <;> rfl
      have tr : ∀ p v, p.block ≠ gm → w.cell? p = some v → wr.cell? p = some v := fun p v hp hv => (World.cell?_of_block (hI.grown.block _ (cell_lt hv) (by simpa using hp))).trans hv
      have hag := HC0.out.2.1 ad hAd (by omega)
      replace q0 := tr _ _ (by rw [eb]; exact hag) q0
      replace q1 := tr _ _ (by rw [eb]; exact hag) q1
      replace q2 := tr _ _ (by rw [eb]; exact hag) q2
      replace q3 := tr _ _ (by rw [eb]; exact hag) q3
      replace q4 := tr _ _ (by rw [eb]; exact hag) q4
      replace q5 := tr _ _ (by rw [eb]; exact hag) q5
      replace q6 := tr _ _ (by rw [eb]; exact hag) q6
      replace q7 := tr _ _ (by rw [eb]; exact hag) q7
      replace q8 := tr _ _ (by rw [eb]; exact hag) q8
      replace q9 := tr _ _ (by rw [eb]; exact hag) q9
      replace q10 := tr _ _ (by rw [eb]; exact hag) q10
      simp only [Int.toNat_natCast] at q0 q1 q2 q3 q4 q5 q6 q7 q8 q9 q10
      subst hAd
      have hxm : rd_T48 l0 (k : Int) = l0[k] := by simp [rd_T48, List.getD_eq_getElem?_getD, hlt]
      have hxs := HC0.out.2.2.1 _ (List.getElem_mem hlt)
      rw [← hxm] at hxs
      have hfold : ((l0.take (k + 1)).map S48.f0).foldl nmStep S0 = nmStep (((l0.take k).map S48.f0).foldl nmStep S0) (rd_T48 l0 (k : Int)).f0 := by
        rw [List.take_succ_eq_append_getElem hlt, List.map_append, List.foldl_append, hxm]; rfl
      have HF := Lib.hid hfold
      have HI := Lib.hid hI
      clear hfold hI tr hxm
      generalize ((l0.take k).map S48.f0).foldl nmStep S0 = S at *
      obtain ⟨b, seen⟩ := S
      generalize rd_T48 l0 (k : Int) = x at *
      have hnmax : n < maxLen := by unfold maxLen; omega
      cases b
      · go_wp2_with fail
        go_roundw
        case rel => exact ⟨k + 1, n, by omega, by omega, by go_num, by rw [HF.out]; rfl, by rw [HF.out]; exact HI.out.alloc _⟩
        case measure => simp [intOf]; omega
      · obtain ⟨r, hr⟩ := named_some x.f0
        have HR := Lib.hid hr
        clear hr
        go_wp2_with fail
        refine (is_walk x.f0 r seen bt gm n _ hxs HR.out (((HI.out.alloc _).grown.block _ hbl (by simp; omega)).trans HB.out) (HI.out.alloc _).seenS hnmax (Nat.lt_trans hgm (HI.out.alloc _).lt) hne).mono ?_
        rintro e w2 ⟨rfl, hS2, hG2⟩
        have HI2 := Lib.hid ((HI.out.alloc _).call hgm hG2 hS2)
        clear hS2 hG2
        go_wp2_with fail
        go_roundw
        case rel => exact ⟨k + 1, n + 1, by omega, by omega, by go_num, by rw [HF.out]; simp [nmStep, HR.out], by rw [HF.out]; exact HI2.out⟩
        case measure => simp [intOf]; omega
    · obtain rfl : k = l0.length := by omega
      rw [List.take_length, HC0.out.2.2.2] at hI
      rw [List.take_length, HC0.out.2.2.2]
      have b0 := blk_cell hI.box 0
      have b1 := blk_cell hI.box 1
      have b2 := blk_cell hI.box 2
      have b3 := blk_cell hI.box 3
      have b4 := blk_cell hI.box 4
      simp only [List.getElem?_toArray, List.getElem?_cons_zero, List.getElem?_cons_succ] at b0 b1 b2 b3 b4
      have HS1 := Lib.hid hI
      clear hI
      go_wp2_with fail
      have hn0 := hn
      have hk0 := hk
      go_loopw [5, 34] (fun f i wr => ∃ (k n : Nat), k ≤ l1.length ∧ n ≤ 0+l0.length + k ∧ i = .int .i64 k ∧ f = .bool (((l1.take k).map S62.f0).foldl nmStep S1).1 ∧ NInv w wr gm #[.slice A0 l0.length c0, .slice A1 l1.length c1, .slice A2 l2.length c2, .slice A3 l3.length c3, .slice A4 l4.length c4] n (((l1.take k).map S62.f0).foldl nmStep S1).2) (fun _ i _ => l1.length - (intOf i).toNat)
      case atStart => exact ⟨0, n, by omega, by omega, rfl, rfl, HS1.out⟩
      case round =>
        obtain ⟨k, n, hk, hn, rfl, rfl, hI⟩ := hrel
        by_cases hlt : k < l1.length
        · obtain ⟨ad, hAd, q0⟩ := at_T62 HC1.out.1 (k : Int) (by omega) (by omega)
          have eb : (ad.add ((k : Int).toNat)).block = ad.block := by unfold Addr.add; split <;> rfl
          have tr : ∀ p v, p.block ≠ gm → w.cell? p = some v → wr.cell? p = some v := fun p v hp hv => (World.cell?_of_block (hI.grown.block _ (cell_lt hv) (by simpa using hp))).trans hv
          have hag := HC1.out.2.1 ad hAd (by omega)
          replace q0 := tr _ _ (by rw [eb]; exact hag) q0
          simp only [Int.toNat_natCast] at q0
          subst hAd
          have hxm : rd_T62 l1 (k : Int) = l1[k] := by simp [rd_T62, List.getD_eq_getElem?_getD, hlt]
          have hxs := HC1.out.2.2.1 _ (List.getElem_mem hlt)
          rw [← hxm] at hxs
          have hfold : ((l1.take (k + 1)).map S62.f0).foldl nmStep S1 = nmStep (((l1.take k).map S62.f0).foldl nmStep S1) (rd_T62 l1 (k : Int)).f0 := by
            rw [List.take_succ_eq_append_getElem hlt, List.map_append, List.foldl_append, hxm]; rfl
          have HF := Lib.hid hfold
          have HI := Lib.hid hI
          clear hfold hI tr hxm
          generalize ((l1.take k).map S62.f0).foldl nmStep S1 = S at *
          obtain ⟨b, seen⟩ := S
          generalize rd_T62 l1 (k : Int) = x at *
          have hnmax : n < maxLen := by unfold maxLen; omega
          cases b
          · go_wp2_with fail
            go_roundw
            case rel => exact ⟨k + 1, n, by omega, by omega, by go_num, by rw [HF.out]; rfl, by rw [HF.out]; exact HI.out.alloc _⟩
            case measure => simp [intOf]; omega
          · obtain ⟨r, hr⟩ := named_some x.f0
            have HR := Lib.hid hr
            clear hr
            go_wp2_with fail
            refine (is_walk x.f0 r seen bt gm n _ hxs HR.out (((HI.out.alloc _).grown.block _ hbl (by simp; omega)).trans HB.out) (HI.out.alloc _).seenS hnmax (Nat.lt_trans hgm (HI.out.alloc _).lt) hne).mono ?_
            rintro e w2 ⟨rfl, hS2, hG2⟩
            have HI2 := Lib.hid ((HI.out.alloc _).call hgm hG2 hS2)
            clear hS2 hG2
            go_wp2_with fail
            go_roundw
            case rel => exact ⟨k + 1, n + 1, by omega, by omega, by go_num, by rw [HF.out]; simp [nmStep, HR.out], by rw [HF.out]; exact HI2.out⟩
            case measure => simp [intOf]; omega
        · obtain rfl : k = l1.length := by omega
          rw [List.take_length, HC1.out.2.2.2] at hI
          rw [List.take_length, HC1.out.2.2.2]
          have b0 := blk_cell hI.box 0
          have b1 := blk_cell hI.box 1
          have b2 := blk_cell hI.box 2
          have b3 := blk_cell hI.box 3
          have b4 := blk_cell hI.box 4
          simp only [List.getElem?_toArray, List.getElem?_cons_zero, List.getElem?_cons_succ] at b0 b1 b2 b3 b4
          have HS2 := Lib.hid hI
          clear hI
          go_wp2_with fail
          have hn1 := hn
          have hk1 := hk
          go_loopw [5, 49] (fun f i wr => ∃ (k n : Nat), k ≤ l2.length ∧ n ≤ 0+l0.length+l1.length + k ∧ i = .int .i64 k ∧ f = .bool (((l2.take k).map S84.f0).foldl nmStep S2).1 ∧ NInv w wr gm #[.slice A0 l0.length c0, .slice A1 l1.length c1, .slice A2 l2.length c2, .slice A3 l3.length c3, .slice A4 l4.length c4] n (((l2.take k).map S84.f0).foldl nmStep S2).2) (fun _ i _ => l2.length - (intOf i).toNat)
          case atStart => exact ⟨0, n, by omega, by omega, rfl, rfl, HS2.out⟩
          case round =>
            obtain ⟨k, n, hk, hn, rfl, rfl, hI⟩ := hrel
            by_cases hlt : k < l2.length
            · obtain ⟨ad, hAd, q0, q1, q2, q3⟩ := at_T84 HC2.out.1 (k : Int) (by omega) (by omega)
              have eb : (ad.add ((k : Int).toNat * 4)).block = ad.block := by unfold Addr.add; split <;> rfl
              have tr : ∀ p v, p.block ≠ gm → w.cell? p = some v → wr.cell? p = some v := fun p v hp hv => (World.cell?_of_block (hI.grown.block _ (cell_lt hv) (by simpa using hp))).trans hv
              have hag := HC2.out.2.1 ad hAd (by omega)
              replace q0 := tr _ _ (by rw [eb]; exact hag) q0
              replace q1 := tr _ _ (by rw [eb]; exact hag) q1
              replace q2 := tr _ _ (by rw [eb]; exact hag) q2
              replace q3 := tr _ _ (by rw [eb]; exact hag) q3
              simp only [Int.toNat_natCast] at q0 q1 q2 q3
              subst hAd
              have hxm : rd_T84 l2 (k : Int) = l2[k] := by simp [rd_T84, List.getD_eq_getElem?_getD, hlt]
              have hxs := HC2.out.2.2.1 _ (List.getElem_mem hlt)
              rw [← hxm] at hxs
              have hfold : ((l2.take (k + 1)).map S84.f0).foldl nmStep S2 = nmStep (((l2.take k).map S84.f0).foldl nmStep S2) (rd_T84 l2 (k : Int)).f0 := by
                rw [List.take_succ_eq_append_getElem hlt, List.map_append, List.foldl_append, hxm]; rfl
              have HF := Lib.hid hfold
              have HI := Lib.hid hI
              clear hfold hI tr hxm
              generalize ((l2.take k).map S84.f0).foldl nmStep S2 = S at *
              obtain ⟨b, seen⟩ := S
              generalize rd_T84 l2 (k : Int) = x at *
              have hnmax : n < maxLen := by unfold maxLen; omega
              cases b
              · go_wp2_with fail
                go_roundw
                case rel => exact ⟨k + 1, n, by omega, by omega, by go_num, by rw [HF.out]; rfl, by rw [HF.out]; exact HI.out.alloc _⟩
                case measure => simp [intOf]; omega
              · obtain ⟨r, hr⟩ := named_some x.f0
                have HR := Lib.hid hr
                clear hr
                go_wp2_with fail
                refine (is_walk x.f0 r seen bt gm n _ hxs HR.out (((HI.out.alloc _).grown.block _ hbl (by simp; omega)).trans HB.out) (HI.out.alloc _).seenS hnmax (Nat.lt_trans hgm (HI.out.alloc _).lt) hne).mono ?_
                rintro e w2 ⟨rfl, hS2, hG2⟩
                have HI2 := Lib.hid ((HI.out.alloc _).call hgm hG2 hS2)
                clear hS2 hG2
                go_wp2_with fail
                go_roundw
                case rel => exact ⟨k + 1, n + 1, by omega, by omega, by go_num, by rw [HF.out]; simp [nmStep, HR.out], by rw [HF.out]; exact HI2.out⟩
                case measure => simp [intOf]; omega
            · obtain rfl : k = l2.length := by omega
              rw [List.take_length, HC2.out.2.2.2] at hI
              rw [List.take_length, HC2.out.2.2.2]
              have b0 := blk_cell hI.box 0
              have b1 := blk_cell hI.box 1
              have b2 := blk_cell hI.box 2
              have b3 := blk_cell hI.box 3
              have b4 := blk_cell hI.box 4
              simp only [List.getElem?_toArray, List.getElem?_cons_zero, List.getElem?_cons_succ] at b0 b1 b2 b3 b4
              have HS3 := Lib.hid hI
              clear hI
              go_wp2_with fail
              have hn2 := hn
              have hk2 := hk
              go_loopw [5, 64] (fun f i wr => ∃ (k n : Nat), k ≤ l3.length ∧ n ≤ 0+l0.length+l1.length+l2.length + k ∧ i = .int .i64 k ∧ f = .bool (((l3.take k).map S42.f0).foldl nmStep S3).1 ∧ NInv w wr gm #[.slice A0 l0.length c0, .slice A1 l1.length c1, .slice A2 l2.length c2, .slice A3 l3.length c3, .slice A4 l4.length c4] n (((l3.take k).map S42.f0).foldl nmStep S3).2) (fun _ i _ => l3.length - (intOf i).toNat)
              case atStart => exact ⟨0, n, by omega, by omega, rfl, rfl, HS3.out⟩
              case round =>
                obtain ⟨k, n, hk, hn, rfl, rfl, hI⟩ := hrel
                by_cases hlt : k < l3.length
                · obtain ⟨ad, hAd, q0, q1, q2, q3, q4, q5, q6, q7⟩ := at_T42 HC3.out.1 (k : Int) (by omega) (by omega)
                  have eb : (ad.add ((k : Int).toNat * 8)).block = ad.block := by unfold Addr.add; split <;> rfl
                  have tr : ∀ p v, p.block ≠ gm → w.cell? p = some v → wr.cell? p = some v := fun p v hp hv => (World.cell?_of_block (hI.grown.block _ (cell_lt hv) (by simpa using hp))).trans hv
                  have hag := HC3.out.2.1 ad hAd (by omega)
                  replace q0 := tr _ _ (by rw [eb]; exact hag) q0
                  replace q1 := tr _ _ (by rw [eb]; exact hag) q1
                  replace q2 := tr _ _ (by rw [eb]; exact hag) q2
                  replace q3 := tr _ _ (by rw [eb]; exact hag) q3
                  replace q4 := tr _ _ (by rw [eb]; exact hag) q4
                  replace q5 := tr _ _ (by rw [eb]; exact hag) q5
                  replace q6 := tr _ _ (by rw [eb]; exact hag) q6
                  replace q7 := tr _ _ (by rw [eb]; exact hag) q7
                  simp only [Int.toNat_natCast] at q0 q1 q2 q3 q4 q5 q6 q7
                  subst hAd
                  have hxm : rd_T42 l3 (k : Int) = l3[k] := by simp [rd_T42, List.getD_eq_getElem?_getD, hlt]
                  have hxs := HC3.out.2.2.1 _ (List.getElem_mem hlt)
                  rw [← hxm] at hxs
                  have hfold : ((l3.take (k + 1)).map S42.f0).foldl nmStep S3 = nmStep (((l3.take k).map S42.f0).foldl nmStep S3) (rd_T42 l3 (k : Int)).f0 := by
                    rw [List.take_succ_eq_append_getElem hlt, List.map_append, List.foldl_append, hxm]; rfl
                  have HF := Lib.hid hfold
                  have HI := Lib.hid hI
                  clear hfold hI tr hxm
                  generalize ((l3.take k).map S42.f0).foldl nmStep S3 = S at *
                  obtain ⟨b, seen⟩ := S
                  generalize rd_T42 l3 (k : Int) = x at *
                  have hnmax : n < maxLen := by unfold maxLen; omega
                  cases b
                  · go_wp2_with fail
                    go_roundw
                    case rel => exact ⟨k + 1, n, by omega, by omega, by go_num, by rw [HF.out]; rfl, by rw [HF.out]; exact HI.out.alloc _⟩
                    case measure => simp [intOf]; omega
                  · obtain ⟨r, hr⟩ := named_some x.f0
                    have HR := Lib.hid hr
                    clear hr
                    go_wp2_with fail
                    refine (is_walk x.f0 r seen bt gm n _ hxs HR.out (((HI.out.alloc _).grown.block _ hbl (by simp; omega)).trans HB.out) (HI.out.alloc _).seenS hnmax (Nat.lt_trans hgm (HI.out.alloc _).lt) hne).mono ?_
                    rintro e w2 ⟨rfl, hS2, hG2⟩
                    have HI2 := Lib.hid ((HI.out.alloc _).call hgm hG2 hS2)
                    clear hS2 hG2
                    go_wp2_with fail
                    go_roundw
                    case rel => exact ⟨k + 1, n + 1, by omega, by omega, by go_num, by rw [HF.out]; simp [nmStep, HR.out], by rw [HF.out]; exact HI2.out⟩
                    case measure => simp [intOf]; omega
                · obtain rfl : k = l3.length := by omega
                  rw [List.take_length, HC3.out.2.2.2] at hI
                  rw [List.take_length, HC3.out.2.2.2]
                  have b0 := blk_cell hI.box 0
                  have b1 := blk_cell hI.box 1
                  have b2 := blk_cell hI.box 2
                  have b3 := blk_cell hI.box 3
                  have b4 := blk_cell hI.box 4
                  simp only [List.getElem?_toArray, List.getElem?_cons_zero, List.getElem?_cons_succ] at b0 b1 b2 b3 b4
                  have HS4 := Lib.hid hI
                  clear hI
                  go_wp2_with fail
                  have hn3 := hn
                  have hk3 := hk
                  go_loopw [5, 79] (fun f i wr => ∃ (k n : Nat), k ≤ l4.length ∧ n ≤ 0+l0.length+l1.length+l2.length+l3.length + k ∧ i = .int .i64 k ∧ f = .bool (((l4.take k).map S87.f0).foldl nmStep S4).1 ∧ NInv w wr gm #[.slice A0 l0.length c0, .slice A1 l1.length c1, .slice A2 l2.length c2, .slice A3 l3.length c3, .slice A4 l4.length c4] n (((l4.take k).map S87.f0).foldl nmStep S4).2) (fun _ i _ => l4.length - (intOf i).toNat)
                  case atStart => exact ⟨0, n, by omega, by omega, rfl, rfl, HS4.out⟩
                  case round =>
                    obtain ⟨k, n, hk, hn, rfl, rfl, hI⟩ := hrel
                    by_cases hlt : k < l4.length
                    · obtain ⟨ad, hAd, q0, q1⟩ := at_T87 HC4.out.1 (k : Int) (by omega) (by omega)
                      have eb : (ad.add ((k : Int).toNat * 2)).block = ad.block := by unfold Addr.add; split <;> rfl
                      have tr : ∀ p v, p.block ≠ gm → w.cell? p = some v → wr.cell? p = some v := fun p v hp hv => (World.cell?_of_block (hI.grown.block _ (cell_lt hv) (by simpa using hp))).trans hv
                      have hag := HC4.out.2.1 ad hAd (by omega)
                      replace q0 := tr _ _ (by rw [eb]; exact hag) q0
                      replace q1 := tr _ _ (by rw [eb]; exact hag) q1
                      simp only [Int.toNat_natCast] at q0 q1
                      subst hAd
                      have hxm : rd_T87 l4 (k : Int) = l4[k] := by simp [rd_T87, List.getD_eq_getElem?_getD, hlt]
                      have hxs := HC4.out.2.2.1 _ (List.getElem_mem hlt)
                      rw [← hxm] at hxs
                      have hfold : ((l4.take (k + 1)).map S87.f0).foldl nmStep S4 = nmStep (((l4.take k).map S87.f0).foldl nmStep S4) (rd_T87 l4 (k : Int)).f0 := by
                        rw [List.take_succ_eq_append_getElem hlt, List.map_append, List.foldl_append, hxm]; rfl
                      have HF := Lib.hid hfold
                      have HI := Lib.hid hI
                      clear hfold hI tr hxm
                      generalize ((l4.take k).map S87.f0).foldl nmStep S4 = S at *
                      obtain ⟨b, seen⟩ := S
                      generalize rd_T87 l4 (k : Int) = x at *
                      have hnmax : n < maxLen := by unfold maxLen; omega
                      cases b
                      · go_wp2_with fail
                        go_roundw
                        case rel => exact ⟨k + 1, n, by omega, by omega, by go_num, by rw [HF.out]; rfl, by rw [HF.out]; exact HI.out.alloc _⟩
                        case measure => simp [intOf]; omega
                      · obtain ⟨r, hr⟩ := named_some x.f0
                        have HR := Lib.hid hr
                        clear hr
                        go_wp2_with fail
                        refine (is_walk x.f0 r seen bt gm n _ hxs HR.out (((HI.out.alloc _).grown.block _ hbl (by simp; omega)).trans HB.out) (HI.out.alloc _).seenS hnmax (Nat.lt_trans hgm (HI.out.alloc _).lt) hne).mono ?_
                        rintro e w2 ⟨rfl, hS2, hG2⟩
                        have HI2 := Lib.hid ((HI.out.alloc _).call hgm hG2 hS2)
                        clear hS2 hG2
                        go_wp2_with fail
                        go_roundw
                        case rel => exact ⟨k + 1, n + 1, by omega, by omega, by go_num, by rw [HF.out]; simp [nmStep, HR.out], by rw [HF.out]; exact HI2.out⟩
                        case measure => simp [intOf]; omega
                    · obtain rfl : k = l4.length := by omega
                      rw [List.take_length, HC4.out.2.2.2] at hI
                      rw [List.take_length, HC4.out.2.2.2]
                      have b0 := blk_cell hI.box 0
                      have b1 := blk_cell hI.box 1
                      have b2 := blk_cell hI.box 2
                      have b3 := blk_cell hI.box 3
                      have b4 := blk_cell hI.box 4
                      simp only [List.getElem?_toArray, List.getElem?_cons_zero, List.getElem?_cons_succ] at b0 b1 b2 b3 b4
                      have HS5 := Lib.hid hI
                      clear hI
                      go_wp2_with fail
                      go_ret
                      exact ⟨rfl, HS5.out.grown, n, HS5.out.seenS⟩
theorem inside_eq (a b c : Int) : site_inside.f a b c = some (ins a b c) := by
  unfold site_inside.f ins
  split
  · rename_i h; rw [decide_eq_true (show b ≤ a from h), Bool.true_and]
  · rename_i h; rw [decide_eq_false (show ¬ b ≤ a from h), Bool.false_and]
theorem ins_iff (a b c : Int) : ins a b c = true ↔ b ≤ a ∧ a ≤ c := by simp [ins]
theorem cond_eq (x : S48) (i : Int) (h0 : 0 ≤ i) (h1 : i ≤ 100) :
    site_conductor.f 4 x.f0 x.f1 x.f2 x.f3 x.f4.f0 x.f4.f1 x.f5.f0 x.f5.f1 x.f5.f2 x.f5.f3 x.f5.f4 i = some (condB x i) := by
  have e1 : wrap64 (i - 1) = i - 1 := hb_wrap64 _ (by omega) (by omega)
  have e2 : ins x.f5.f0 0 200000 = true → wrap64 (x.f5.f0 + 1) = x.f5.f0 + 1 := fun h => by
    have := (ins_iff _ _ _).1 h
    exact hb_wrap64 _ (by omega) (by omega)
  unfold condB
  have K : ∀ (up fu th : Bool), (if up = true then (if fu = true then (if th = true then (if ins x.f2 1 1000 = true then some (ins x.f3 1 1000) else some false) else some false) else some false) else some false) = some (up && fu && th && ins x.f2 1 1000 && ins x.f3 1 1000) := by
    intro up fu th
    cases up <;> cases fu <;> cases th <;> cases ins x.f2 1 1000 <;> rfl
  have U : ∀ (G : Bool → Option Bool), (if i = 0 then if x.f1 = -1 then G true else if i > 0 then G (ins x.f1 0 (i - 1)) else G false else if i > 0 then G (ins x.f1 0 (i - 1)) else G false) = G (decide (i = 0) && decide (x.f1 = -1) || decide (0 < i) && ins x.f1 0 (i - 1)) := by
    intro G
    by_cases hi : i = 0
    · subst hi
      by_cases hu : x.f1 = -1
      · simp [hu]
      · simp [hu]
    · have : i > 0 := by omega
      simp [hi, this]
  have T : ∀ (G : Bool → Option Bool), (if (x.f5.f0 == 0 && (x.f5.f1 == 0 && (x.f5.f2 == 0 && (x.f5.f3 == 0 && (x.f5.f4 == 0))))) = true then G true else if ins x.f5.f0 0 200000 = true then if ins x.f5.f1 (wrap64 (x.f5.f0 + 1)) 200000 = true then if ins x.f5.f2 0 1000 = true then if ins x.f5.f3 0 1000 = true then G (ins x.f5.f4 1 1000000) else G false else G false else G false else G false) = G (decide (x.f5.f0 = 0) && decide (x.f5.f1 = 0) && decide (x.f5.f2 = 0) && decide (x.f5.f3 = 0) && decide (x.f5.f4 = 0) ||
    ins x.f5.f0 0 200000 && ins x.f5.f1 (x.f5.f0 + 1) 200000 && ins x.f5.f2 0 1000 && ins x.f5.f3 0 1000 && ins x.f5.f4 1 1000000) := by
    intro G
    by_cases hz : (x.f5.f0 == 0 && (x.f5.f1 == 0 && (x.f5.f2 == 0 && (x.f5.f3 == 0 && (x.f5.f4 == 0))))) = true
    · rw [if_pos hz]
      simp only [Bool.and_eq_true, beq_iff_eq] at hz
      simp [hz]
    · rw [if_neg hz]
      have hz' : (decide (x.f5.f0 = 0) && decide (x.f5.f1 = 0) && decide (x.f5.f2 = 0) && decide (x.f5.f3 = 0) && decide (x.f5.f4 = 0)) = false := by
        simp only [Bool.and_eq_true, beq_iff_eq] at hz
        simpa [Bool.and_assoc] using hz
      rw [hz', Bool.false_or]
      cases ha : ins x.f5.f0 0 200000
      · rfl
      · rw [e2 ha]
        cases ins x.f5.f1 (x.f5.f0 + 1) 200000 <;> cases ins x.f5.f2 0 1000 <;> cases ins x.f5.f3 0 1000 <;> rfl
  have F : ∀ (G : Bool → Option Bool), (if (x.f4.f0 == 0 && (x.f4.f1 == 0)) = true then G true else if ins x.f4.f0 1 1000 = true then G (ins x.f4.f1 0 1000000) else G false) = G (decide (x.f4.f0 = 0) && decide (x.f4.f1 = 0) || ins x.f4.f0 1 1000 && ins x.f4.f1 0 1000000) := by
    intro G
    by_cases hz : (x.f4.f0 == 0 && (x.f4.f1 == 0)) = true
    · rw [if_pos hz]
      simp only [Bool.and_eq_true, beq_iff_eq] at hz
      simp [hz]
    · rw [if_neg hz]
      have hz' : (decide (x.f4.f0 = 0) && decide (x.f4.f1 = 0)) = false := by
        simp only [Bool.and_eq_true, beq_iff_eq] at hz
        simpa using hz
      rw [hz', Bool.false_or]
      cases ins x.f4.f0 1 1000 <;> rfl
  have J2 : ∀ fu th up : Bool, site_conductor.j2 2 fu th up x.f0 x.f1 x.f2 x.f3 x.f4.f0 x.f4.f1 x.f5.f0 x.f5.f1 x.f5.f2 x.f5.f3 x.f5.f4 = some (up && fu && th && ins x.f2 1 1000 && ins x.f3 1 1000) := fun fu th up => by
    simp only [site_conductor.j2, site_conductor.j3, inside_eq, Option.bind_some]
    exact K up fu th
  have J1 : ∀ fu th : Bool, site_conductor.j1 3 i fu th x.f0 x.f1 x.f2 x.f3 x.f4.f0 x.f4.f1 x.f5.f0 x.f5.f1 x.f5.f2 x.f5.f3 x.f5.f4 = some ((decide (i = 0) && decide (x.f1 = -1) || decide (0 < i) && ins x.f1 0 (i - 1)) && fu && th && ins x.f2 1 1000 && ins x.f3 1 1000) := fun fu th => by
    simp only [site_conductor.j1, inside_eq, Option.bind_some, e1]
    exact (U (fun b => site_conductor.j2 2 fu th b x.f0 x.f1 x.f2 x.f3 x.f4.f0 x.f4.f1 x.f5.f0 x.f5.f1 x.f5.f2 x.f5.f3 x.f5.f4)).trans (J2 _ _ _)
  have J0 : ∀ fu : Bool, site_conductor.j0 4 i fu x.f0 x.f1 x.f2 x.f3 x.f4.f0 x.f4.f1 x.f5.f0 x.f5.f1 x.f5.f2 x.f5.f3 x.f5.f4 x.f5.f0 x.f5.f1 x.f5.f2 x.f5.f3 x.f5.f4 = some ((decide (i = 0) && decide (x.f1 = -1) || decide (0 < i) && ins x.f1 0 (i - 1)) && fu && (decide (x.f5.f0 = 0) && decide (x.f5.f1 = 0) && decide (x.f5.f2 = 0) && decide (x.f5.f3 = 0) && decide (x.f5.f4 = 0) ||
    ins x.f5.f0 0 200000 && ins x.f5.f1 (x.f5.f0 + 1) 200000 && ins x.f5.f2 0 1000 && ins x.f5.f3 0 1000 && ins x.f5.f4 1 1000000) && ins x.f2 1 1000 && ins x.f3 1 1000) := fun fu => by
    simp only [site_conductor.j0, inside_eq, Option.bind_some]
    exact (T (fun b => site_conductor.j1 3 i fu b x.f0 x.f1 x.f2 x.f3 x.f4.f0 x.f4.f1 x.f5.f0 x.f5.f1 x.f5.f2 x.f5.f3 x.f5.f4)).trans (J1 _ _)
  simp only [site_conductor.f, inside_eq, Option.bind_some]
  exact (F (fun b => site_conductor.j0 4 i b x.f0 x.f1 x.f2 x.f3 x.f4.f0 x.f4.f1 x.f5.f0 x.f5.f1 x.f5.f2 x.f5.f3 x.f5.f4 x.f5.f0 x.f5.f1 x.f5.f2 x.f5.f3 x.f5.f4)).trans (J0 _)
theorem chg_eq (x : S42) (l0 : List S48) (l1 : List S62) (l2 : List S84) (l3 : List S42) (l4 : List S87) (h0 : l0.length ≤ 100) (h1 : l1.length ≤ 100) :
    site_charger.f x.f0 x.f1 x.f2 x.f3 x.f4 x.f5 x.f6 x.f7 l0 l1 l2 l3 l4 = some (chgB l0.length l1.length x) := by
  have e0 : wrap64 ((l0.length : Int) - 1) = (l0.length : Int) - 1 := hb_wrap64 _ (by omega) (by omega)
  have e1 : wrap64 ((l1.length : Int) - 1) = (l1.length : Int) - 1 := hb_wrap64 _ (by omega) (by omega)
  unfold site_charger.f chgB
  simp only [inside_eq, Option.bind_some, e0, e1]
  cases ins x.f1 0 ((l0.length : Int) - 1) <;> cases ins x.f7 0 ((l1.length : Int) - 1) <;> cases ins x.f2 1 7 <;> cases ins x.f3 1 80 <;> cases ins x.f4 x.f3 80 <;> cases ins x.f5 1 80 <;> (first | rfl | (by_cases hz : x.f6 = 0 <;> simp [hz]))
structure VInv (w wr : World) (gm2 : Nat) (box : Array Value) (n : Nat) (seen : List Int) : Prop where
  below : Below w.heap.size w wr
  box : wr.heap[w.heap.size]? = some (.cells box 28 (0, 0))
  seenI : SeenI Try.prog 3 4 wr gm2 n seen
theorem VInv.lt {w wr : World} {gm n : Nat} {box : Array Value} {seen : List Int} (h : VInv w wr gm box n seen) : w.heap.size < wr.heap.size := (Array.getElem?_eq_some_iff.1 h.box).1
theorem VInv.call {w wr w2 : World} {gm n : Nat} {box : Array Value} {seen : List Int} (h : VInv w wr gm box n seen) (hb : Below wr.heap.size wr w2) : VInv w w2 gm box n seen :=
  ⟨⟨hb.os.trans h.below.os, hb.tape.trans h.below.tape, hb.output.trans h.below.output, Nat.le_trans h.below.size hb.size, fun k hk => (hb.block k (Nat.lt_of_lt_of_le hk h.below.size)).trans (h.below.block k hk)⟩,
    (hb.block _ h.lt).trans h.box, h.seenI.kept ⟨hb.os, hb.tape, hb.output, hb.size, fun k hk _ => hb.block k hk⟩ (row := none) (by simp)⟩
theorem VInv.alloc {w wr : World} {gm n : Nat} {box : Array Value} {seen : List Int} (h : VInv w wr gm box n seen) (o : Obj) : VInv w (wr.alloc o) gm box n seen :=
  h.call (below_alloc (Below.refl _ wr) o)
theorem VInv.drewN {w wr : World} {gm n : Nat} {box : Array Value} {seen : List Int} (h : VInv w wr gm box n seen) (q : Nat) : VInv w (wr.drewN q) gm box n seen :=
  h.call (pw_below_drewN (Below.refl _ wr) q)
theorem VInv.put {w wr w2 : World} {gm n m : Nat} {box : Array Value} {seen seen' : List Int} (h : VInv w wr gm box n seen) (hgm : w.heap.size < gm) (g : wr.grownBy w2 (some gm)) (hs : SeenI Try.prog 3 4 w2 gm m seen') : VInv w w2 gm box m seen' :=
  ⟨⟨g.os.trans h.below.os, g.tape.trans h.below.tape, g.output.trans h.below.output, Nat.le_trans h.below.size g.size, fun k hk => (g.block k (Nat.lt_of_lt_of_le hk h.below.size) (by simp; omega)).trans (h.below.block k hk)⟩,
    (g.block _ h.lt (by simp; omega)).trans h.box, hs⟩
set_option maxHeartbeats 4000000 in
theorem valid_main (A0 A1 A2 A3 A4 : Option Addr) (c0 c1 c2 c3 c4 : Nat) (l0 : List S48) (l1 : List S62) (l2 : List S84) (l3 : List S42) (l4 : List S87) (w : World)
    (C0 : Kd.C k48 w A0 l0.length l0) (lc0 : l0.length ≤ c0) (hs0 : ∀ x ∈ l0, x.f0.size ≤ maxLen)
    (C1 : Kd.C k62 w A1 l1.length l1) (lc1 : l1.length ≤ c1) (hs1 : ∀ x ∈ l1, x.f0.size ≤ maxLen)
    (C2 : Kd.C k84 w A2 l2.length l2) (lc2 : l2.length ≤ c2) (hs2 : ∀ x ∈ l2, x.f0.size ≤ maxLen)
    (C3 : Kd.C k42 w A3 l3.length l3) (lc3 : l3.length ≤ c3) (hs3 : ∀ x ∈ l3, x.f0.size ≤ maxLen)
    (C4 : Kd.C k87 w A4 l4.length l4) (lc4 : l4.length ≤ c4) (hs4 : ∀ x ∈ l4, x.f0.size ≤ maxLen)
    (h0 : 1 ≤ l0.length ∧ l0.length ≤ 16) (h1 : l1.length ≤ 8) (h2 : l2.length ≤ 32) (h3 : l3.length ≤ 16) (h4 : l4.length ≤ 24) (hcw : ∀ x ∈ l2, (Lit.int .i64 x.f3).wf = true)
    (fine5 : Bool) (hfin : validB l0 l1 l2 l3 l4 = fine5) :
    Calls Try.prog 27 #[.agg #[.slice A0 l0.length c0, .slice A1 l1.length c1, .slice A2 l2.length c2, .slice A3 l3.length c3, .slice A4 l4.length c4]] w fun e w' => e = .returned (.bool fine5) ∧ Below w.heap.size w w' := by
  have HI := Lib.hid (show site_inside.f l0.length 1 16 = some true by rw [inside_eq]; congr 1; rw [ins_iff]; omega)
  have d1 : decide ((l1.length : Int) > 8) = false := by simp; omega
  have d2 : decide ((l2.length : Int) > 32) = false := by simp; omega
  have d3 : decide ((l3.length : Int) > 16) = false := by simp; omega
  have d4 : decide ((l4.length : Int) > 24) = false := by simp; omega
  have HFIN : Hid (andTo (andTo (andTo (andTo (((l0.map S48.f0) ++ (l1.map S62.f0) ++ (l2.map S84.f0) ++ (l3.map S42.f0) ++ (l4.map S87.f0)).foldl nmStep (true, [])).1
    (fun i => condB (rd_T48 l0 i) i) l0.length) (contB l1.length l2) l2.length) (fun i => chgB l0.length l1.length (rd_T42 l3 i)) l3.length) (fun i => ins (rd_T87 l4 i).f1 0 ((l3.length : Int) - 1)) l4.length = fine5) := Lib.hid (by
    rw [← hfin]
    unfold validB
    rw [show ins (l0.length : Int) 1 16 = true from (ins_iff _ _ _).2 (by omega), decide_eq_true h1, decide_eq_true h2, decide_eq_true h3, decide_eq_true h4]
    simp only [Bool.true_and])
  clear hfin
  have m1 : ∀ W : World, (Instr.makeMap 78 none).run Try.prog W = .ok (.map (some W.heap.size)) (W.alloc (.map #[] 0)) := fun _ => rfl
  have m2 : ∀ W : World, (Instr.makeMap 79 none).run Try.prog W = .ok (.map (some W.heap.size)) (W.alloc (.map #[] 0)) := fun _ => rfl
  go_enter Try.func27, Try.ntmps27
  go_wp2_with fail
  refine (site_inside.calls _ _ _ _ _ HI.out).mono ?_
  rintro e w1 ⟨rfl, q1, rfl⟩
  go_wp2_with fail
  have hA0 : ∀ ad, A0 = some ad → 0 < l0.length → ad.block < w.heap.size := fun ad h hl => by
    have h' := at_T48 C0 0 (by omega) (by omega)
    obtain ⟨ad', e', q⟩ := h'
    rw [h] at e'; cases e'
    have := cell_lt q.1
    have eb : ∀ n, (ad.add n).block = ad.block := fun n => by unfold Addr.add; split <;> rfl
    rwa [eb] at this
  have hA1 : ∀ ad, A1 = some ad → 0 < l1.length → ad.block < w.heap.size := fun ad h hl => by
    have h' := at_T62 C1 0 (by omega) (by omega)
    obtain ⟨ad', e', q⟩ := h'
    rw [h] at e'; cases e'
    have := cell_lt q
    have eb : ∀ n, (ad.add n).block = ad.block := fun n => by unfold Addr.add; split <;> rfl
    rwa [eb] at this
  have hA2 : ∀ ad, A2 = some ad → 0 < l2.length → ad.block < w.heap.size := fun ad h hl => by
    have h' := at_T84 C2 0 (by omega) (by omega)
    obtain ⟨ad', e', q⟩ := h'
    rw [h] at e'; cases e'
    have := cell_lt q.1
    have eb : ∀ n, (ad.add n).block = ad.block := fun n => by unfold Addr.add; split <;> rfl
    rwa [eb] at this
  have hA3 : ∀ ad, A3 = some ad → 0 < l3.length → ad.block < w.heap.size := fun ad h hl => by
    have h' := at_T42 C3 0 (by omega) (by omega)
    obtain ⟨ad', e', q⟩ := h'
    rw [h] at e'; cases e'
    have := cell_lt q.1
    have eb : ∀ n, (ad.add n).block = ad.block := fun n => by unfold Addr.add; split <;> rfl
    rwa [eb] at this
  have hA4 : ∀ ad, A4 = some ad → 0 < l4.length → ad.block < w.heap.size := fun ad h hl => by
    have h' := at_T87 C4 0 (by omega) (by omega)
    obtain ⟨ad', e', q⟩ := h'
    rw [h] at e'; cases e'
    have := cell_lt q.1
    have eb : ∀ n, (ad.add n).block = ad.block := fun n => by unfold Addr.add; split <;> rfl
    rwa [eb] at this
  obtain ⟨W1, hW1⟩ : ∃ W1, (((((w.alloc (.cells #[.slice A0 l0.length c0, .slice A1 l1.length c1, .slice A2 l2.length c2, .slice A3 l3.length c3, .slice A4 l4.length c4] 28)).drewN q1).alloc (.map #[] 0)).alloc (.map #[] 0)).alloc (.cells #[.map (some (w.heap.size + 1))] 78)) = W1 := ⟨_, rfl⟩
  have hB1 : Below w.heap.size w W1 := by
    rw [← hW1]
    repeat (first | exact Below.refl _ w | apply below_alloc | apply pw_below_drewN)
  have hbx : W1.heap[w.heap.size]? = some (.cells #[.slice A0 l0.length c0, .slice A1 l1.length c1, .slice A2 l2.length c2, .slice A3 l3.length c3, .slice A4 l4.length c4] 28 (0, 0)) := by
    rw [← hW1]
    refine (Below.heap_alloc _ _ _ (by simp; omega)).trans ((Below.heap_alloc _ _ _ (by simp; omega)).trans ((Below.heap_alloc _ _ _ (by simp)).trans ?_))
    exact (by simpa using heap_alloc_new w (.cells #[.slice A0 l0.length c0, .slice A1 l1.length c1, .slice A2 l2.length c2, .slice A3 l3.length c3, .slice A4 l4.length c4] 28))
  have hbt : W1.heap[w.heap.size + 1 + 1 + 1]? = some (.cells #[.map (some (w.heap.size + 1))] 78 (0, 0)) := by
    rw [← hW1]
    have := heap_alloc_new ((((w.alloc (.cells #[.slice A0 l0.length c0, .slice A1 l1.length c1, .slice A2 l2.length c2, .slice A3 l3.length c3, .slice A4 l4.length c4] 28)).drewN q1).alloc (.map #[] 0)).alloc (.map #[] 0)) (.cells #[.map (some (w.heap.size + 1))] 78)
    simpa using this
  have hSS : SeenS Try.prog 9 4 W1 (w.heap.size + 1) 0 [] := by
    rw [← hW1]
    have := SeenS.made Try.prog 9 4 ((w.alloc (.cells #[.slice A0 l0.length c0, .slice A1 l1.length c1, .slice A2 l2.length c2, .slice A3 l3.length c3, .slice A4 l4.length c4] 28)).drewN q1)
    have h2 := (this.kept (World.grownBy_alloc _ (.map #[] 0) none) (by simp)).kept (World.grownBy_alloc _ (.cells #[.map (some (w.heap.size + 1))] 78) none) (by simp)
    simpa using h2
  have hSz : W1.heap.size = w.heap.size + 4 := by rw [← hW1]; simp
  have hSI : SeenI Try.prog 3 4 W1 (w.heap.size + 1 + 1) 0 [] := by
    rw [← hW1]
    have := SeenI.made Try.prog 3 4 (((w.alloc (.cells #[.slice A0 l0.length c0, .slice A1 l1.length c1, .slice A2 l2.length c2, .slice A3 l3.length c3, .slice A4 l4.length c4] 28)).drewN q1).alloc (.map #[] 0))
    have h2 := this.kept (World.grownBy_alloc _ (.cells #[.map (some (w.heap.size + 1))] 78) none) (by simp)
    simpa using h2
  rw [hW1]
  clear hW1 m1 m2
  have ne : ∀ {A : Option Addr} {n : Nat}, (∀ ad, A = some ad → 0 < n → ad.block < w.heap.size) → ∀ ad, A = some ad → 0 < n → ad.block ≠ w.heap.size + 1 := fun h ad e hn => by have := h ad e hn; omega
  refine (names_walk A0 A1 A2 A3 A4 c0 c1 c2 c3 c4 l0 l1 l2 l3 l4 (w.heap.size + 1 + 1 + 1) (w.heap.size + 1) W1 (Kd.C_below C0 hB1) (ne hA0) hs0 (by omega) (Kd.C_below C1 hB1) (ne hA1) hs1 (by omega) (Kd.C_below C2 hB1) (ne hA2) hs2 (by omega) (Kd.C_below C3 hB1) (ne hA3) hs3 (by omega) (Kd.C_below C4 hB1) (ne hA4) hs4 (by omega) hbt hSS (by omega) (by omega) _ _ _ _ _ _ rfl rfl rfl rfl rfl rfl).mono ?_
  rintro e w2 ⟨rfl, hg, n, hSS2⟩
  have hB2 : Below w.heap.size w w2 := ⟨hg.os.trans hB1.os, hg.tape.trans hB1.tape, hg.output.trans hB1.output, Nat.le_trans hB1.size hg.size, fun k hk => (hg.block k (by omega) (by simp; omega)).trans (hB1.block k hk)⟩
  have hbx2 : w2.heap[w.heap.size]? = some (.cells #[.slice A0 l0.length c0, .slice A1 l1.length c1, .slice A2 l2.length c2, .slice A3 l3.length c3, .slice A4 l4.length c4] 28 (0, 0)) := (hg.block _ (by omega) (by simp)).trans hbx
  have hSI2 := hSI.kept hg (by simp)
  clear hSI hSS hSS2 hbt hbx hg hB1
  have HE := Lib.hid (show (List.foldl nmStep (List.foldl nmStep (List.foldl nmStep (List.foldl nmStep (List.foldl nmStep (true, []) (l0.map S48.f0)) (l1.map S62.f0)) (l2.map S84.f0)) (l3.map S42.f0)) (l4.map S87.f0)).1 = (((l0.map S48.f0) ++ (l1.map S62.f0) ++ (l2.map S84.f0) ++ (l3.map S42.f0) ++ (l4.map S87.f0)).foldl nmStep (true, [])).1 by simp only [List.foldl_append])
  obtain ⟨fine, hfine⟩ : ∃ b, (((l0.map S48.f0) ++ (l1.map S62.f0) ++ (l2.map S84.f0) ++ (l3.map S42.f0) ++ (l4.map S87.f0)).foldl nmStep (true, [])).1 = b := ⟨_, rfl⟩
  replace HE := HE.out
  replace HFIN := HFIN.out
  rw [hfine] at HE HFIN
  rw [HE]
  clear hfine HE
  replace HFIN := Lib.hid HFIN
  have b0 := blk_cell hbx2 0
  have b1 := blk_cell hbx2 1
  have b2 := blk_cell hbx2 2
  have b3 := blk_cell hbx2 3
  have b4 := blk_cell hbx2 4
  simp only [List.getElem?_toArray, List.getElem?_cons_zero, List.getElem?_cons_succ] at b0 b1 b2 b3 b4
  go_wp2_with fail
  have HV0 := Lib.hid (show VInv w w2 (w.heap.size + 1 + 1) #[.slice A0 l0.length c0, .slice A1 l1.length c1, .slice A2 l2.length c2, .slice A3 l3.length c3, .slice A4 l4.length c4] 0 [] from ⟨hB2, hbx2, hSI2⟩)
  clear hB2 hbx2 hSI2 b0 b1 b2 b3 b4
  have HC0 := Lib.hid (And.intro C0 (And.intro hA0 trivial))
  go_loopw [5, 51] (fun f i wr => ∃ k : Nat, k ≤ l0.length ∧ i = .int .i64 k ∧ f = .bool (andTo fine (fun i => condB (rd_T48 l0 i) i) k) ∧ VInv w wr (w.heap.size + 1 + 1) #[.slice A0 l0.length c0, .slice A1 l1.length c1, .slice A2 l2.length c2, .slice A3 l3.length c3, .slice A4 l4.length c4] 0 []) (fun _ i _ => l0.length - (intOf i).toNat)
  case atStart => exact ⟨0, by omega, rfl, rfl, HV0.out⟩
  case round =>
    obtain ⟨k, hk, rfl, rfl, hI⟩ := hrel
    by_cases hlt : k < l0.length
    · skip
      obtain ⟨ad, hAd, q0, q1, q2, q3, q4, q5, q6, q7, q8, q9, q10⟩ := at_T48 HC0.out.1 (k : Int) (by omega) (by omega)
      have eb : (ad.add ((k : Int).toNat * 11)).block = ad.block := by unfold Addr.add; split <;> rfl
      have tr : ∀ p v, p.block < w.heap.size → w.cell? p = some v → wr.cell? p = some v := fun p v hp hv => (World.cell?_of_block (hI.below.block _ hp)).trans hv
      have hag := HC0.out.2.1 ad hAd (by omega)
      replace q0 := tr _ _ (by rw [eb]; exact hag) q0
      replace q1 := tr _ _ (by rw [eb]; exact hag) q1
      replace q2 := tr _ _ (by rw [eb]; exact hag) q2
      replace q3 := tr _ _ (by rw [eb]; exact hag) q3
      replace q4 := tr _ _ (by rw [eb]; exact hag) q4
      replace q5 := tr _ _ (by rw [eb]; exact hag) q5
      replace q6 := tr _ _ (by rw [eb]; exact hag) q6
      replace q7 := tr _ _ (by rw [eb]; exact hag) q7
      replace q8 := tr _ _ (by rw [eb]; exact hag) q8
      replace q9 := tr _ _ (by rw [eb]; exact hag) q9
      replace q10 := tr _ _ (by rw [eb]; exact hag) q10
      simp only [Int.toNat_natCast] at q0 q1 q2 q3 q4 q5 q6 q7 q8 q9 q10
      subst hAd
      have HN := Lib.hid (show andTo fine (fun i => condB (rd_T48 l0 i) i) (k + 1) = (andTo fine (fun i => condB (rd_T48 l0 i) i) k && condB (rd_T48 l0 (k : Int)) k) from rfl)
      have HR := Lib.hid (cond_eq (rd_T48 l0 (k : Int)) k (by omega) (by omega))
      have HI := Lib.hid hI
      clear hI tr
      generalize andTo fine (fun i => condB (rd_T48 l0 i) i) k = b at *
      generalize rd_T48 l0 (k : Int) = x at *
      generalize condB x k = r at *
      cases b
      · go_wp2_with fail
        go_roundw
        case rel => exact ⟨k + 1, by omega, by go_num, by rw [HN.out]; rfl, HI.out.alloc _⟩
        case measure => simp [intOf]; omega
      · go_wp2_with fail
        refine (site_conductor.calls 4 _ _ _ _ _ _ _ _ _ _ _ _ _ _ HR.out).mono ?_
        rintro e w3 ⟨rfl, hb3⟩
        have HI2 := Lib.hid ((HI.out.alloc _).call hb3)
        clear hb3
        go_wp2_with fail
        go_roundw
        case rel => exact ⟨k + 1, by omega, by go_num, by rw [HN.out]; simp, HI2.out⟩
        case measure => simp [intOf]; omega
    · obtain rfl : k = l0.length := by omega
      have b0 := blk_cell hI.box 0
      have b1 := blk_cell hI.box 1
      have b2 := blk_cell hI.box 2
      have b3 := blk_cell hI.box 3
      have b4 := blk_cell hI.box 4
      simp only [List.getElem?_toArray, List.getElem?_cons_zero, List.getElem?_cons_succ] at b0 b1 b2 b3 b4
      have HV1 := Lib.hid hI
      clear hI
      obtain ⟨fine1, hfine1⟩ : ∃ b, andTo fine (fun i => condB (rd_T48 l0 i) i) l0.length = b := ⟨_, rfl⟩
      replace HFIN := HFIN.out
      rw [hfine1] at HFIN
      rw [hfine1]
      clear hfine1
      replace HFIN := Lib.hid HFIN
      go_wp2_with fail
      have HC2 := Lib.hid (And.intro C2 (And.intro hA2 hcw))
      go_loopw [5, 66] (fun f i wr => ∃ k n : Nat, k ≤ l2.length ∧ n ≤ k ∧ i = .int .i64 k ∧ f = .bool (andTo fine1 (contB l1.length l2) k) ∧ VInv w wr (w.heap.size + 1 + 1) #[.slice A0 l0.length c0, .slice A1 l1.length c1, .slice A2 l2.length c2, .slice A3 l3.length c3, .slice A4 l4.length c4] n ((l2.take k).map S84.f3).reverse) (fun _ i _ => l2.length - (intOf i).toNat)
      case atStart => exact ⟨0, 0, by omega, by omega, rfl, rfl, HV1.out⟩
      case round =>
        obtain ⟨k, n, hk, hn, rfl, rfl, hI⟩ := hrel
        by_cases hlt : k < l2.length
        · skip
          obtain ⟨ad, hAd, q0, q1, q2, q3⟩ := at_T84 HC2.out.1 (k : Int) (by omega) (by omega)
          have eb : (ad.add ((k : Int).toNat * 4)).block = ad.block := by unfold Addr.add; split <;> rfl
          have tr : ∀ p v, p.block < w.heap.size → w.cell? p = some v → wr.cell? p = some v := fun p v hp hv => (World.cell?_of_block (hI.below.block _ hp)).trans hv
          have hag := HC2.out.2.1 ad hAd (by omega)
          replace q0 := tr _ _ (by rw [eb]; exact hag) q0
          replace q1 := tr _ _ (by rw [eb]; exact hag) q1
          replace q2 := tr _ _ (by rw [eb]; exact hag) q2
          replace q3 := tr _ _ (by rw [eb]; exact hag) q3
          simp only [Int.toNat_natCast] at q0 q1 q2 q3
          subst hAd
          have hxm : rd_T84 l2 (k : Int) = l2[k] := by simp [rd_T84, List.getD_eq_getElem?_getD, hlt]
          have hxw := HC2.out.2.2 _ (List.getElem_mem hlt)
          rw [← hxm] at hxw
          have HT := Lib.hid (show ((l2.take (k + 1)).map S84.f3).reverse = (rd_T84 l2 (k : Int)).f3 :: ((l2.take k).map S84.f3).reverse by
            rw [List.take_succ_eq_append_getElem hlt, List.map_append, List.reverse_append, hxm]; rfl)
          have HN := Lib.hid (show andTo fine1 (contB l1.length l2) (k + 1) = (andTo fine1 (contB l1.length l2) k && (ins (rd_T84 l2 (k : Int)).f1 0 ((l1.length : Int) - 1) && ins (rd_T84 l2 (k : Int)).f2 1 9 && ins (rd_T84 l2 (k : Int)).f3 1 1000000 && !decide ((rd_T84 l2 (k : Int)).f3 ∈ ((l2.take k).map S84.f3).reverse))) from rfl)
          have b1 := blk_cell hI.box 1
          simp only [List.getElem?_toArray, List.getElem?_cons_zero, List.getElem?_cons_succ] at b1
          have HI := Lib.hid hI
          clear hI tr hxm
          have hnmax : n < maxLen := by unfold maxLen; omega
          generalize andTo fine1 (contB l1.length l2) k = b at *
          generalize ((l2.take k).map S84.f3).reverse = seen at *
          generalize rd_T84 l2 (k : Int) = x at *
          cases b
          · have hV := HI.out.alloc (.cells #[.string x.f0, .int .i64 x.f1, .int .i64 x.f2, .int .i64 x.f3] 84)
            obtain ⟨w4, hup, hS4, hg4⟩ := hV.seenI.put Try.underlying79 Try.underlying3 Try.underlying4 hnmax x.f3 hxw
            have HI4 := Lib.hid (hV.put (by omega) hg4 hS4)
            clear hV hS4 hg4
            go_wp2_with fail
            go_roundw
            case rel => exact ⟨k + 1, n + 1, by omega, by omega, by go_num, by rw [HN.out]; simp [], by rw [HT.out]; exact HI4.out⟩
            case measure => simp [intOf]; omega
          · have bb := blk_cell (HI.out.alloc (.cells #[.string x.f0, .int .i64 x.f1, .int .i64 x.f2, .int .i64 x.f3] 84)).box 1
            simp only [List.getElem?_toArray, List.getElem?_cons_zero, List.getElem?_cons_succ] at bb
            go_wp2_with fail
            refine (site_inside.calls x.f1 0 ((l1.length : Int) - 1) _ _ (inside_eq _ _ _)).mono ?_
            rintro e w3 ⟨rfl, qa, rfl⟩
            cases hv1 : ins x.f1 0 ((l1.length : Int) - 1)
            · skip
              have hV := (HI.out.alloc (.cells #[.string x.f0, .int .i64 x.f1, .int .i64 x.f2, .int .i64 x.f3] 84)).drewN qa
              obtain ⟨w4, hup, hS4, hg4⟩ := hV.seenI.put Try.underlying79 Try.underlying3 Try.underlying4 hnmax x.f3 hxw
              have HI4 := Lib.hid (hV.put (by omega) hg4 hS4)
              clear hV hS4 hg4
              go_wp2_with fail
              go_roundw
              case rel => exact ⟨k + 1, n + 1, by omega, by omega, by go_num, by rw [HN.out]; simp [hv1], by rw [HT.out]; exact HI4.out⟩
              case measure => simp [intOf]; omega
            · go_wp2_with fail
              refine (site_inside.calls x.f2 1 9 _ _ (inside_eq _ _ _)).mono ?_
              rintro e w3 ⟨rfl, qb, rfl⟩
              cases hv2 : ins x.f2 1 9
              · skip
                have hV := (HI.out.alloc (.cells #[.string x.f0, .int .i64 x.f1, .int .i64 x.f2, .int .i64 x.f3] 84)).drewN (qa + qb)
                obtain ⟨w4, hup, hS4, hg4⟩ := hV.seenI.put Try.underlying79 Try.underlying3 Try.underlying4 hnmax x.f3 hxw
                have HI4 := Lib.hid (hV.put (by omega) hg4 hS4)
                clear hV hS4 hg4
                go_wp2_with fail
                go_roundw
                case rel => exact ⟨k + 1, n + 1, by omega, by omega, by go_num, by rw [HN.out]; simp [hv1, hv2], by rw [HT.out]; exact HI4.out⟩
                case measure => simp [intOf]; omega
              · go_wp2_with fail
                refine (site_inside.calls x.f3 1 1000000 _ _ (inside_eq _ _ _)).mono ?_
                rintro e w3 ⟨rfl, qc, rfl⟩
                cases hv3 : ins x.f3 1 1000000
                · skip
                  have hV := (HI.out.alloc (.cells #[.string x.f0, .int .i64 x.f1, .int .i64 x.f2, .int .i64 x.f3] 84)).drewN (qa + qb + qc)
                  obtain ⟨w4, hup, hS4, hg4⟩ := hV.seenI.put Try.underlying79 Try.underlying3 Try.underlying4 hnmax x.f3 hxw
                  have HI4 := Lib.hid (hV.put (by omega) hg4 hS4)
                  clear hV hS4 hg4
                  go_wp2_with fail
                  go_roundw
                  case rel => exact ⟨k + 1, n + 1, by omega, by omega, by go_num, by rw [HN.out]; simp [hv1, hv2, hv3], by rw [HT.out]; exact HI4.out⟩
                  case measure => simp [intOf]; omega
                · skip
                  have hV := (HI.out.alloc (.cells #[.string x.f0, .int .i64 x.f1, .int .i64 x.f2, .int .i64 x.f3] 84)).drewN (qa + qb + qc)
                  obtain ⟨w4, hup, hS4, hg4⟩ := hV.seenI.put Try.underlying79 Try.underlying3 Try.underlying4 hnmax x.f3 hxw
                  have HI4 := Lib.hid (hV.put (by omega) hg4 hS4)
                  have hlook := hV.seenI.look Try.underlying79 Try.underlying3 Try.underlying4 (by kernel_rfl) x.f3 hxw
                  clear hV hS4 hg4
                  go_wp2_with fail
                  go_roundw
                  case rel => exact ⟨k + 1, n + 1, by omega, by omega, by go_num, by rw [HN.out]; simp [hv1, hv2, hv3], by rw [HT.out]; exact HI4.out⟩
                  case measure => simp [intOf]; omega
        · obtain rfl : k = l2.length := by omega
          have b0 := blk_cell hI.box 0
          have b1 := blk_cell hI.box 1
          have b2 := blk_cell hI.box 2
          have b3 := blk_cell hI.box 3
          have b4 := blk_cell hI.box 4
          simp only [List.getElem?_toArray, List.getElem?_cons_zero, List.getElem?_cons_succ] at b0 b1 b2 b3 b4
          have HV2 := Lib.hid ((⟨n, hI⟩ : ∃ n, VInv w wr (w.heap.size + 1 + 1) #[.slice A0 l0.length c0, .slice A1 l1.length c1, .slice A2 l2.length c2, .slice A3 l3.length c3, .slice A4 l4.length c4] n ((l2.take l2.length).map S84.f3).reverse))
          clear hI
          obtain ⟨fine2, hfine2⟩ : ∃ b, andTo fine1 (contB l1.length l2) l2.length = b := ⟨_, rfl⟩
          replace HFIN := HFIN.out
          rw [hfine2] at HFIN
          rw [hfine2]
          clear hfine2 hn
          generalize ((l2.take l2.length).map S84.f3).reverse = seen at *
          replace HFIN := Lib.hid HFIN
          go_wp2_with fail
          have HC3 := Lib.hid (And.intro C3 (And.intro hA3 trivial))
          go_loopw [5, 104] (fun f i wr => ∃ k : Nat, k ≤ l3.length ∧ i = .int .i64 k ∧ f = .bool (andTo fine2 (fun i => chgB l0.length l1.length (rd_T42 l3 i)) k) ∧ ∃ n, VInv w wr (w.heap.size + 1 + 1) #[.slice A0 l0.length c0, .slice A1 l1.length c1, .slice A2 l2.length c2, .slice A3 l3.length c3, .slice A4 l4.length c4] n seen) (fun _ i _ => l3.length - (intOf i).toNat)
          case atStart => exact ⟨0, by omega, rfl, rfl, HV2.out⟩
          case round =>
            obtain ⟨k, hk, rfl, rfl, n, hI⟩ := hrel
            by_cases hlt : k < l3.length
            · skip
              obtain ⟨ad, hAd, q0, q1, q2, q3, q4, q5, q6, q7⟩ := at_T42 HC3.out.1 (k : Int) (by omega) (by omega)
              have eb : (ad.add ((k : Int).toNat * 8)).block = ad.block := by unfold Addr.add; split <;> rfl
              have tr : ∀ p v, p.block < w.heap.size → w.cell? p = some v → wr.cell? p = some v := fun p v hp hv => (World.cell?_of_block (hI.below.block _ hp)).trans hv
              have hag := HC3.out.2.1 ad hAd (by omega)
              replace q0 := tr _ _ (by rw [eb]; exact hag) q0
              replace q1 := tr _ _ (by rw [eb]; exact hag) q1
              replace q2 := tr _ _ (by rw [eb]; exact hag) q2
              replace q3 := tr _ _ (by rw [eb]; exact hag) q3
              replace q4 := tr _ _ (by rw [eb]; exact hag) q4
              replace q5 := tr _ _ (by rw [eb]; exact hag) q5
              replace q6 := tr _ _ (by rw [eb]; exact hag) q6
              replace q7 := tr _ _ (by rw [eb]; exact hag) q7
              simp only [Int.toNat_natCast] at q0 q1 q2 q3 q4 q5 q6 q7
              subst hAd
              have HN := Lib.hid (show andTo fine2 (fun i => chgB l0.length l1.length (rd_T42 l3 i)) (k + 1) = (andTo fine2 (fun i => chgB l0.length l1.length (rd_T42 l3 i)) k && chgB l0.length l1.length (rd_T42 l3 (k : Int))) from rfl)
              have HR := Lib.hid (chg_eq (rd_T42 l3 (k : Int)) l0 l1 l2 l3 l4 (by omega) (by omega))
              have HI := Lib.hid hI
              clear hI tr
              generalize andTo fine2 (fun i => chgB l0.length l1.length (rd_T42 l3 i)) k = b at *
              generalize rd_T42 l3 (k : Int) = x at *
              generalize chgB l0.length l1.length x = r at *
              cases b
              · go_wp2_with fail
                go_roundw
                case rel => exact ⟨k + 1, by omega, by go_num, by rw [HN.out]; rfl, n, HI.out.alloc _⟩
                case measure => simp [intOf]; omega
              · have hbw := Lib.hid (HI.out.alloc (.cells #[.string x.f0, .int .i64 x.f1, .int .i64 x.f2, .int .i64 x.f3, .int .i64 x.f4, .int .i64 x.f5, .int .i64 x.f6, .int .i64 x.f7] 42)).below
                have b0 := blk_cell (HI.out.alloc (.cells #[.string x.f0, .int .i64 x.f1, .int .i64 x.f2, .int .i64 x.f3, .int .i64 x.f4, .int .i64 x.f5, .int .i64 x.f6, .int .i64 x.f7] 42)).box 0
                have b1 := blk_cell (HI.out.alloc (.cells #[.string x.f0, .int .i64 x.f1, .int .i64 x.f2, .int .i64 x.f3, .int .i64 x.f4, .int .i64 x.f5, .int .i64 x.f6, .int .i64 x.f7] 42)).box 1
                have b2 := blk_cell (HI.out.alloc (.cells #[.string x.f0, .int .i64 x.f1, .int .i64 x.f2, .int .i64 x.f3, .int .i64 x.f4, .int .i64 x.f5, .int .i64 x.f6, .int .i64 x.f7] 42)).box 2
                have b3 := blk_cell (HI.out.alloc (.cells #[.string x.f0, .int .i64 x.f1, .int .i64 x.f2, .int .i64 x.f3, .int .i64 x.f4, .int .i64 x.f5, .int .i64 x.f6, .int .i64 x.f7] 42)).box 3
                have b4 := blk_cell (HI.out.alloc (.cells #[.string x.f0, .int .i64 x.f1, .int .i64 x.f2, .int .i64 x.f3, .int .i64 x.f4, .int .i64 x.f5, .int .i64 x.f6, .int .i64 x.f7] 42)).box 4
                simp only [List.getElem?_toArray, List.getElem?_cons_zero, List.getElem?_cons_succ] at b0 b1 b2 b3 b4
                go_wp2_with fail
                refine (site_charger.calls _ _ _ _ _ _ _ _ _ _ l0 _ _ l1 _ _ l2 _ _ l3 _ _ l4 _ _ (Kd.C_below C0 hbw.out) lc0 (Kd.C_below C1 hbw.out) lc1 (Kd.C_below C2 hbw.out) lc2 (Kd.C_below C3 hbw.out) lc3 (Kd.C_below C4 hbw.out) lc4 HR.out).mono ?_
                rintro e w3 ⟨rfl, hb3⟩
                have HI2 := Lib.hid ((HI.out.alloc _).call hb3)
                clear hb3
                go_wp2_with fail
                go_roundw
                case rel => exact ⟨k + 1, by omega, by go_num, by rw [HN.out]; simp, n, HI2.out⟩
                case measure => simp [intOf]; omega
            · obtain rfl : k = l3.length := by omega
              have b0 := blk_cell hI.box 0
              have b1 := blk_cell hI.box 1
              have b2 := blk_cell hI.box 2
              have b3 := blk_cell hI.box 3
              have b4 := blk_cell hI.box 4
              simp only [List.getElem?_toArray, List.getElem?_cons_zero, List.getElem?_cons_succ] at b0 b1 b2 b3 b4
              have HV3 := Lib.hid ((⟨n, hI⟩ : ∃ n, VInv w wr (w.heap.size + 1 + 1) #[.slice A0 l0.length c0, .slice A1 l1.length c1, .slice A2 l2.length c2, .slice A3 l3.length c3, .slice A4 l4.length c4] n seen))
              clear hI
              obtain ⟨fine3, hfine3⟩ : ∃ b, andTo fine2 (fun i => chgB l0.length l1.length (rd_T42 l3 i)) l3.length = b := ⟨_, rfl⟩
              replace HFIN := HFIN.out
              rw [hfine3] at HFIN
              rw [hfine3]
              clear hfine3
              replace HFIN := Lib.hid HFIN
              go_wp2_with fail
              have HC4 := Lib.hid (And.intro C4 (And.intro hA4 trivial))
              go_loopw [5, 118] (fun f i wr => ∃ k : Nat, k ≤ l4.length ∧ i = .int .i64 k ∧ f = .bool (andTo fine3 (fun i => ins (rd_T87 l4 i).f1 0 ((l3.length : Int) - 1)) k) ∧ ∃ n, VInv w wr (w.heap.size + 1 + 1) #[.slice A0 l0.length c0, .slice A1 l1.length c1, .slice A2 l2.length c2, .slice A3 l3.length c3, .slice A4 l4.length c4] n seen) (fun _ i _ => l4.length - (intOf i).toNat)
              case atStart => exact ⟨0, by omega, rfl, rfl, HV3.out⟩
              case round =>
                obtain ⟨k, hk, rfl, rfl, n, hI⟩ := hrel
                by_cases hlt : k < l4.length
                · skip
                  obtain ⟨ad, hAd, q0, q1⟩ := at_T87 HC4.out.1 (k : Int) (by omega) (by omega)
                  have eb : (ad.add ((k : Int).toNat * 2)).block = ad.block := by unfold Addr.add; split <;> rfl
                  have tr : ∀ p v, p.block < w.heap.size → w.cell? p = some v → wr.cell? p = some v := fun p v hp hv => (World.cell?_of_block (hI.below.block _ hp)).trans hv
                  have hag := HC4.out.2.1 ad hAd (by omega)
                  replace q0 := tr _ _ (by rw [eb]; exact hag) q0
                  replace q1 := tr _ _ (by rw [eb]; exact hag) q1
                  simp only [Int.toNat_natCast] at q0 q1
                  subst hAd
                  have HN := Lib.hid (show andTo fine3 (fun i => ins (rd_T87 l4 i).f1 0 ((l3.length : Int) - 1)) (k + 1) = (andTo fine3 (fun i => ins (rd_T87 l4 i).f1 0 ((l3.length : Int) - 1)) k && ins (rd_T87 l4 (k : Int)).f1 0 ((l3.length : Int) - 1)) from rfl)
                  have HI := Lib.hid hI
                  clear hI tr
                  generalize andTo fine3 (fun i => ins (rd_T87 l4 i).f1 0 ((l3.length : Int) - 1)) k = b at *
                  generalize rd_T87 l4 (k : Int) = x at *
                  cases b
                  · go_wp2_with fail
                    go_roundw
                    case rel => exact ⟨k + 1, by omega, by go_num, by rw [HN.out]; rfl, n, HI.out.alloc _⟩
                    case measure => simp [intOf]; omega
                  · skip
                    have b0 := blk_cell (HI.out.alloc (.cells #[.string x.f0, .int .i64 x.f1] 87)).box 0
                    have b1 := blk_cell (HI.out.alloc (.cells #[.string x.f0, .int .i64 x.f1] 87)).box 1
                    have b2 := blk_cell (HI.out.alloc (.cells #[.string x.f0, .int .i64 x.f1] 87)).box 2
                    have b3 := blk_cell (HI.out.alloc (.cells #[.string x.f0, .int .i64 x.f1] 87)).box 3
                    have b4 := blk_cell (HI.out.alloc (.cells #[.string x.f0, .int .i64 x.f1] 87)).box 4
                    simp only [List.getElem?_toArray, List.getElem?_cons_zero, List.getElem?_cons_succ] at b0 b1 b2 b3 b4
                    go_wp2_with fail
                    refine (site_inside.calls x.f1 0 ((l3.length : Int) - 1) _ _ (inside_eq _ _ _)).mono ?_
                    rintro e w3 ⟨rfl, qa, rfl⟩
                    have HI2 := Lib.hid ((HI.out.alloc (.cells #[.string x.f0, .int .i64 x.f1] 87)).drewN qa)
                    generalize ins x.f1 0 ((l3.length : Int) - 1) = r at *
                    go_wp2_with fail
                    go_roundw
                    case rel => exact ⟨k + 1, by omega, by go_num, by rw [HN.out]; simp, n, HI2.out⟩
                    case measure => simp [intOf]; omega
                · obtain rfl : k = l4.length := by omega
                  have HV4 := Lib.hid hI.below
                  clear hI
                  rw [HFIN.out]
                  go_wp2_with fail
                  go_ret
                  exact ⟨rfl, HV4.out⟩
theorem valid_exit0 (A0 A1 A2 A3 A4 : Option Addr) (c0 c1 c2 c3 c4 : Nat) (l0 : List S48) (l1 : List S62) (l2 : List S84) (l3 : List S42) (l4 : List S87) (w : World) (h0 : ins l0.length 1 16 = false) :
    Calls Try.prog 27 #[.agg #[.slice A0 l0.length c0, .slice A1 l1.length c1, .slice A2 l2.length c2, .slice A3 l3.length c3, .slice A4 l4.length c4]] w fun e w' => e = .returned (.bool false) ∧ Below w.heap.size w w' := by
  have HI := Lib.hid (show site_inside.f l0.length 1 16 = some false by rw [inside_eq, h0])
  clear h0
  go_enter Try.func27, Try.ntmps27
  go_wp2_with fail
  refine (site_inside.calls _ _ _ _ _ HI.out).mono ?_
  rintro e w1 ⟨rfl, q1, rfl⟩
  go_wp2_with fail
  go_ret
  exact ⟨rfl, pw_below_drewN (below_alloc (Below.refl _ w) _) q1⟩
theorem valid_exit1 (A0 A1 A2 A3 A4 : Option Addr) (c0 c1 c2 c3 c4 : Nat) (l0 : List S48) (l1 : List S62) (l2 : List S84) (l3 : List S42) (l4 : List S87) (w : World) (h0 : ins l0.length 1 16 = true) (h1 : ¬ l1.length ≤ 8) :
    Calls Try.prog 27 #[.agg #[.slice A0 l0.length c0, .slice A1 l1.length c1, .slice A2 l2.length c2, .slice A3 l3.length c3, .slice A4 l4.length c4]] w fun e w' => e = .returned (.bool false) ∧ Below w.heap.size w w' := by
  have HI := Lib.hid (show site_inside.f l0.length 1 16 = some true by rw [inside_eq, h0])
  clear h0
  have d1 : decide ((l1.length : Int) > 8) = true := by simp; omega
  go_enter Try.func27, Try.ntmps27
  go_wp2_with fail
  refine (site_inside.calls _ _ _ _ _ HI.out).mono ?_
  rintro e w1 ⟨rfl, q1, rfl⟩
  go_wp2_with fail
  go_ret
  exact ⟨rfl, pw_below_drewN (below_alloc (Below.refl _ w) _) q1⟩
theorem valid_exit2 (A0 A1 A2 A3 A4 : Option Addr) (c0 c1 c2 c3 c4 : Nat) (l0 : List S48) (l1 : List S62) (l2 : List S84) (l3 : List S42) (l4 : List S87) (w : World) (h0 : ins l0.length 1 16 = true) (h1 : l1.length ≤ 8) (h2 : ¬ l2.length ≤ 32) :
    Calls Try.prog 27 #[.agg #[.slice A0 l0.length c0, .slice A1 l1.length c1, .slice A2 l2.length c2, .slice A3 l3.length c3, .slice A4 l4.length c4]] w fun e w' => e = .returned (.bool false) ∧ Below w.heap.size w w' := by
  have HI := Lib.hid (show site_inside.f l0.length 1 16 = some true by rw [inside_eq, h0])
  clear h0
  have d1 : decide ((l1.length : Int) > 8) = false := by simp; omega
  have d2 : decide ((l2.length : Int) > 32) = true := by simp; omega
  go_enter Try.func27, Try.ntmps27
  go_wp2_with fail
  refine (site_inside.calls _ _ _ _ _ HI.out).mono ?_
  rintro e w1 ⟨rfl, q1, rfl⟩
  go_wp2_with fail
  go_ret
  exact ⟨rfl, pw_below_drewN (below_alloc (Below.refl _ w) _) q1⟩
theorem valid_exit3 (A0 A1 A2 A3 A4 : Option Addr) (c0 c1 c2 c3 c4 : Nat) (l0 : List S48) (l1 : List S62) (l2 : List S84) (l3 : List S42) (l4 : List S87) (w : World) (h0 : ins l0.length 1 16 = true) (h1 : l1.length ≤ 8) (h2 : l2.length ≤ 32) (h3 : ¬ l3.length ≤ 16) :
    Calls Try.prog 27 #[.agg #[.slice A0 l0.length c0, .slice A1 l1.length c1, .slice A2 l2.length c2, .slice A3 l3.length c3, .slice A4 l4.length c4]] w fun e w' => e = .returned (.bool false) ∧ Below w.heap.size w w' := by
  have HI := Lib.hid (show site_inside.f l0.length 1 16 = some true by rw [inside_eq, h0])
  clear h0
  have d1 : decide ((l1.length : Int) > 8) = false := by simp; omega
  have d2 : decide ((l2.length : Int) > 32) = false := by simp; omega
  have d3 : decide ((l3.length : Int) > 16) = true := by simp; omega
  go_enter Try.func27, Try.ntmps27
  go_wp2_with fail
  refine (site_inside.calls _ _ _ _ _ HI.out).mono ?_
  rintro e w1 ⟨rfl, q1, rfl⟩
  go_wp2_with fail
  go_ret
  exact ⟨rfl, pw_below_drewN (below_alloc (Below.refl _ w) _) q1⟩
theorem valid_exit4 (A0 A1 A2 A3 A4 : Option Addr) (c0 c1 c2 c3 c4 : Nat) (l0 : List S48) (l1 : List S62) (l2 : List S84) (l3 : List S42) (l4 : List S87) (w : World) (h0 : ins l0.length 1 16 = true) (h1 : l1.length ≤ 8) (h2 : l2.length ≤ 32) (h3 : l3.length ≤ 16) (h4 : ¬ l4.length ≤ 24) :
    Calls Try.prog 27 #[.agg #[.slice A0 l0.length c0, .slice A1 l1.length c1, .slice A2 l2.length c2, .slice A3 l3.length c3, .slice A4 l4.length c4]] w fun e w' => e = .returned (.bool false) ∧ Below w.heap.size w w' := by
  have HI := Lib.hid (show site_inside.f l0.length 1 16 = some true by rw [inside_eq, h0])
  clear h0
  have d1 : decide ((l1.length : Int) > 8) = false := by simp; omega
  have d2 : decide ((l2.length : Int) > 32) = false := by simp; omega
  have d3 : decide ((l3.length : Int) > 16) = false := by simp; omega
  have d4 : decide ((l4.length : Int) > 24) = true := by simp; omega
  go_enter Try.func27, Try.ntmps27
  go_wp2_with fail
  refine (site_inside.calls _ _ _ _ _ HI.out).mono ?_
  rintro e w1 ⟨rfl, q1, rfl⟩
  go_wp2_with fail
  go_ret
  exact ⟨rfl, pw_below_drewN (below_alloc (Below.refl _ w) _) q1⟩
def site_Valid.f (l0_0 : List (S48)) (l0_1 : List (S62)) (l0_2 : List (S84)) (l0_3 : List (S42)) (l0_4 : List (S87)) : Option Bool := if fitsB l0_0 l0_1 l0_2 l0_3 l0_4 then some (validB l0_0 l0_1 l0_2 l0_3 l0_4) else none
theorem site_Valid.calls (A0_0 : Option Addr) (c0_0 : Nat) (l0_0 : List (S48)) (A0_1 : Option Addr) (c0_1 : Nat) (l0_1 : List (S62)) (A0_2 : Option Addr) (c0_2 : Nat) (l0_2 : List (S84)) (A0_3 : Option Addr) (c0_3 : Nat) (l0_3 : List (S42)) (A0_4 : Option Addr) (c0_4 : Nat) (l0_4 : List (S87)) (r : Bool) (w : World) (hr0_0 : Kd.C k48 w A0_0 l0_0.length l0_0) (hc0_0 : l0_0.length ≤ c0_0) (hr0_1 : Kd.C k62 w A0_1 l0_1.length l0_1) (hc0_1 : l0_1.length ≤ c0_1) (hr0_2 : Kd.C k84 w A0_2 l0_2.length l0_2) (hc0_2 : l0_2.length ≤ c0_2) (hr0_3 : Kd.C k42 w A0_3 l0_3.length l0_3) (hc0_3 : l0_3.length ≤ c0_3) (hr0_4 : Kd.C k87 w A0_4 l0_4.length l0_4) (hc0_4 : l0_4.length ≤ c0_4) (h : site_Valid.f l0_0 l0_1 l0_2 l0_3 l0_4 = some r) :
    Calls Try.prog 27 #[.agg #[.slice A0_0 l0_0.length c0_0, .slice A0_1 l0_1.length c0_1, .slice A0_2 l0_2.length c0_2, .slice A0_3 l0_3.length c0_3, .slice A0_4 l0_4.length c0_4]] w fun e w' => e = .returned (.bool r) ∧ Below w.heap.size w w' := by
  unfold site_Valid.f at h
  by_cases hf : fitsB l0_0 l0_1 l0_2 l0_3 l0_4 = true
  · rw [if_pos hf] at h
    have hv := Option.some.inj h
    clear h
    have hf' := of_decide_eq_true hf
    obtain ⟨f0, f1, f2, f3, f4, f5⟩ := hf'
    have ex : ∀ (b : Bool), b = false → validB l0_0 l0_1 l0_2 l0_3 l0_4 = b → r = false := fun b hb h => by rw [← hv, h, hb]
    cases i0 : ins l0_0.length 1 16
    · obtain rfl : r = false := by rw [← hv]; unfold validB; rw [i0]; simp
      exact valid_exit0 A0_0 A0_1 A0_2 A0_3 A0_4 c0_0 c0_1 c0_2 c0_3 c0_4 l0_0 l0_1 l0_2 l0_3 l0_4 w i0
    · by_cases i1 : l0_1.length ≤ 8
      · by_cases i2 : l0_2.length ≤ 32
        · by_cases i3 : l0_3.length ≤ 16
          · by_cases i4 : l0_4.length ≤ 24
            · exact valid_main A0_0 A0_1 A0_2 A0_3 A0_4 c0_0 c0_1 c0_2 c0_3 c0_4 l0_0 l0_1 l0_2 l0_3 l0_4 w hr0_0 hc0_0 f0 hr0_1 hc0_1 f1 hr0_2 hc0_2 f2 hr0_3 hc0_3 f3 hr0_4 hc0_4 f4 (by have := (ins_iff _ _ _).1 i0; omega) i1 i2 i3 i4 f5 r hv
            · obtain rfl : r = false := by rw [← hv]; unfold validB; rw [decide_eq_false i4]; simp
              exact valid_exit4 A0_0 A0_1 A0_2 A0_3 A0_4 c0_0 c0_1 c0_2 c0_3 c0_4 l0_0 l0_1 l0_2 l0_3 l0_4 w i0 i1 i2 i3 i4
          · obtain rfl : r = false := by rw [← hv]; unfold validB; rw [decide_eq_false i3]; simp
            exact valid_exit3 A0_0 A0_1 A0_2 A0_3 A0_4 c0_0 c0_1 c0_2 c0_3 c0_4 l0_0 l0_1 l0_2 l0_3 l0_4 w i0 i1 i2 i3
        · obtain rfl : r = false := by rw [← hv]; unfold validB; rw [decide_eq_false i2]; simp
          exact valid_exit2 A0_0 A0_1 A0_2 A0_3 A0_4 c0_0 c0_1 c0_2 c0_3 c0_4 l0_0 l0_1 l0_2 l0_3 l0_4 w i0 i1 i2
      · obtain rfl : r = false := by rw [← hv]; unfold validB; rw [decide_eq_false i1]; simp
        exact valid_exit1 A0_0 A0_1 A0_2 A0_3 A0_4 c0_0 c0_1 c0_2 c0_3 c0_4 l0_0 l0_1 l0_2 l0_3 l0_4 w i0 i1
  · rw [if_neg hf] at h
    cases h
end Go.Proofs.Ytpdmnineampimaa.Q
