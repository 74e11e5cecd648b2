import Derived.Test.YtilmdlaacpefiaaZe
set_option linter.unusedVariables false
set_option linter.unusedSimpArgs false
set_option linter.unusedSectionVars false
namespace Go.Proofs.Ytilmdlaacpefiaa.Q
open Go.RowKit Go.Proofs.YtilmdlaacpefiaaW.PrintWords Go.Proofs.YtilmdlaacpefiaaW.PrintLast Go.Proofs.YtilmdlaacpefiaaW.PrintMore
attribute [local go_sem] max2_int min2_int max_two min_two max_three min_three max_four min_four
def badW (n : Int) : Bool := decide (n < 0) || decide (1000000 < n)
theorem wrongM_calls (n : Int) (w : World) : Calls Try.prog 27 #[.int .i64 n] w fun e w' => e = .returned (.bool (badW n)) ∧ w' = w := by
  by_cases h : n < 0
  · have e : badW n = true := by simp [badW, h]
    rw [e]
    have h1 : decide (n < 0) = true := decide_eq_true h
    go_enter Try.func27, Try.ntmps27
    go_wp2
    go_ret
    exact ⟨rfl, rfl⟩
  · have e : badW n = decide (n > 1000000) := by simp [badW, h]
    rw [e]
    have h1 : decide (n < 0) = false := decide_eq_false h
    go_enter Try.func27, Try.ntmps27
    go_wp2
    go_ret
    exact ⟨rfl, rfl⟩
theorem anyM_take_succ (l : List Int) (k : Nat) (h : k < l.length) : (l.take (k + 1)).any badW = ((l.take k).any badW || badW (rd l k)) := by
  rw [List.take_succ_eq_append_getElem h, List.any_append]
  simp [rd, List.getD_eq_getElem?_getD, h]
theorem indexM_calls (A : Option Addr) (c : Nat) (l : List Int) (w : World) (hC : (Kd.int .i64).C w A l.length l) (hl : l.length ≤ 1000000) :
    Calls Try.prog 31 #[.slice A l.length c, .func (.func 27) #[] #[]] w fun e w' => ∃ i : Int, e = .returned (.int .i64 i) ∧ decide (i ≥ 0) = l.any badW ∧ w' = w := by
  go_enter Try.func31, Try.ntmps31
  go_wp2_with fail
  go_loopw [8] (fun i wr => ∃ k : Nat, k ≤ l.length ∧ i = .int .i64 k ∧ wr = w ∧ (l.take k).any badW = false) (fun i _ => l.length - (intOf i).toNat)
  case atStart => exact ⟨0, by omega, rfl, rfl, by simp⟩
  case round =>
    obtain ⟨k, hk, rfl, rfl, hn⟩ := hrel
    by_cases hlt : k < l.length
    · obtain ⟨ad, hAd, hcell⟩ := Kd.at_int hC (k : Int) (by omega) (by omega)
      subst hAd
      have hs := Lib.hid (anyM_take_succ l k hlt)
      have HN := Lib.hid hn
      have hd : ∀ m, k + 1 ≤ m → (l.take (k + 1)).any badW = true → l.any badW = true := fun _ _ h => by
        rw [List.any_eq_true] at h ⊢
        obtain ⟨x, hx, hb⟩ := h
        exact ⟨x, List.mem_of_mem_take hx, hb⟩
      have HD := Lib.hid hd
      clear hn hd
      simp only [Int.toNat_natCast] at hcell
      generalize rd l (k : Int) = n at *
      go_wp2_with fail
      refine (wrongM_calls n _).mono ?_
      rintro e w' ⟨rfl, rfl⟩
      cases hb : badW n
      · have HB := Lib.hid hb
        clear hb
        go_wp2_with fail
        go_roundw
        case rel => exact ⟨k + 1, by omega, by go_num, by first | rfl | trivial, by rw [hs.out, HN.out, HB.out]; rfl⟩
        case measure => simp [intOf]; omega
      · have HB := Lib.hid hb
        clear hb
        go_wp2_with fail
        go_ret
        exact ⟨_, rfl, by rw [HD.out _ (Nat.le_refl _) (by rw [hs.out, HN.out, HB.out]; rfl)]; simp, rfl⟩
    · obtain rfl : k = l.length := by omega
      rw [List.take_length] at hn
      have HN := Lib.hid hn
      clear hn
      go_wp2_with fail
      go_ret
      exact ⟨_, rfl, by rw [HN.out]; rfl, rfl⟩
theorem containsM_calls (A : Option Addr) (c : Nat) (l : List Int) (w : World) (hC : (Kd.int .i64).C w A l.length l) (hl : l.length ≤ 1000000) :
    Calls Try.prog 28 #[.slice A l.length c, .func (.func 27) #[] #[]] w fun e w' => e = .returned (.bool (l.any badW)) ∧ w' = w := by
  go_enter Try.func28, Try.ntmps28
  go_wp2_with fail
  refine (indexM_calls A c l w hC hl).mono ?_
  rintro e w' ⟨i, rfl, hi, rfl⟩
  have HI := Lib.hid hi
  clear hi
  go_wp2_with fail
  go_ret
  exact ⟨by rw [← HI.out]; rfl, rfl⟩
def remM (s all : Int) (ws : List Int) (i : Int) : Int := (s * rd ws i) % all
set_option maxHeartbeats 4000000 in
theorem cmpM_calls (s all : Int) (ws : List Int) (ad : Addr) (c : Nat) (p2 p3 p4 : Addr) (x y : Nat) (W : World) (hx : x < ws.length) (hy : y < ws.length) (hs : 0 ≤ s ∧ s ≤ 1000000000) (ha : 1 ≤ all ∧ all ≤ 1000000000)
    (hw : ∀ i : Int, 0 ≤ i → i < ws.length → 0 ≤ rd ws i ∧ rd ws i ≤ 1000000) (hC : ∀ i : Nat, i < ws.length → W.cell? (ad.add i) = some (.int .i64 (rd ws (i : Int))))
    (h2 : W.cell? p2 = some (.int .i64 s)) (h3 : W.cell? p3 = some (.slice (some ad) ws.length c)) (h4 : W.cell? p4 = some (.int .i64 all)) :
    Calls Try.prog 30 #[.int .i64 x, .int .i64 y, .pointer (some p2), .pointer (some p3), .pointer (some p4)] W fun e w' => e = .returned (.int .i64 (remM s all ws y - remM s all ws x)) ∧ ∃ q, w' = W.drewN q := by
  have hcx := hC x hx
  have hcy := hC y hy
  have b1 := hw x (by omega) (by omega)
  have b2 := hw y (by omega) (by omega)
  have q0 : 0 ≤ s * rd ws x := Int.mul_nonneg hs.1 b1.1
  have q1 : s * rd ws x ≤ 1000000000 * 1000000 := Int.mul_le_mul hs.2 b1.2 b1.1 (by decide)
  have q2 : 0 ≤ s * rd ws y := Int.mul_nonneg hs.1 b2.1
  have q3 : s * rd ws y ≤ 1000000000 * 1000000 := Int.mul_le_mul hs.2 b2.2 b2.1 (by decide)
  have e1 : wrap64 (s * rd ws x) = s * rd ws x := by unfold wrap64; omega
  have e2 : wrap64 (s * rd ws y) = s * rd ws y := by unfold wrap64; omega
  have e3 : (s * rd ws x).tmod all = remM s all ws x := Int.tmod_eq_emod_of_nonneg q0
  have e4 : (s * rd ws y).tmod all = remM s all ws y := Int.tmod_eq_emod_of_nonneg q2
  have r1 : 0 ≤ remM s all ws x := Int.emod_nonneg _ (by omega)
  have r2 : remM s all ws x < all := Int.emod_lt_of_pos _ (by omega)
  have r3 : 0 ≤ remM s all ws y := Int.emod_nonneg _ (by omega)
  have r4 : remM s all ws y < all := Int.emod_lt_of_pos _ (by omega)
  have e5 : wrap64 (remM s all ws y - remM s all ws x) = remM s all ws y - remM s all ws x := by unfold wrap64; omega
  have e6 : wrap64 (remM s all ws x) = remM s all ws x := by unfold wrap64; omega
  have e7 : wrap64 (remM s all ws y) = remM s all ws y := by unfold wrap64; omega
  have z1 : (all == 0) = false := by simp; omega
  have z2 : all ≠ 0 := by omega
  have hx' : (x : Int) < (ws.length : Int) := by omega
  have hy' : (y : Int) < (ws.length : Int) := by omega
  have hx0 : (0 : Int) ≤ x := by omega
  have hy0 : (0 : Int) ≤ y := by omega
  generalize remM s all ws x = rx at *
  generalize remM s all ws y = ry at *
  generalize rd ws x = vx at *
  generalize rd ws y = vy at *
  clear q0 q1 q2 q3 r1 r2 r3 r4 b1 b2 hs ha hw hC
  go_enter Try.func30, Try.ntmps30
  go_wp2_with fail
  go_quiet (fail)
  go_wp2
  go_ret
  exact ⟨congrArg (fun z => Ending.returned (.int .i64 z)) e5, _, rfl⟩
open Go.Sort in
theorem sortWorld_far {α : Type} [Inhabited α] (enc : α → Value) (w : World) (blk m : Nat) (dk : Array α) (os : Array Obj) (a : Addr) (v : Value) (hb : a.block ≠ blk) (hv : w.cell? a = some v) : (sortWorld enc w blk 0 m dk os).cell? a = some v := by
  have hlt := World.block_lt_of_cell? w _ hv
  unfold sortWorld
  rw [cell?_grow _ _ _ (by rw [size_putRow]; exact hlt), cell?_putRow_other _ _ _ _ _ _ (Or.inl hb)]
  exact hv
open Go.Sort in
theorem cmpM_reads (s all : Int) (ws : List Int) (ad : Addr) (c : Nat) (g2 g3 g4 blk : Nat) (w : World) (hs : 0 ≤ s ∧ s ≤ 1000000000) (ha : 1 ≤ all ∧ all ≤ 1000000000)
    (hw : ∀ i : Int, 0 ≤ i → i < ws.length → 0 ≤ rd ws i ∧ rd ws i ≤ 1000000) (hC : ∀ i : Nat, i < ws.length → w.cell? (ad.add i) = some (.int .i64 (rd ws (i : Int)))) (hCb : ad.block ≠ blk)
    (h2 : w.cell? ⟨g2, 0, none⟩ = some (.int .i64 s)) (h3 : w.cell? ⟨g3, 0, none⟩ = some (.slice (some ad) ws.length c)) (h4 : w.cell? ⟨g4, 0, none⟩ = some (.int .i64 all)) (n2 : g2 ≠ blk) (n3 : g3 ≠ blk) (n4 : g4 ≠ blk) (hI : Inhabited (Fin ws.length)) :
    CmpReads Try.prog 30 #[.pointer (some ⟨g2, 0, none⟩), .pointer (some ⟨g3, 0, none⟩), .pointer (some ⟨g4, 0, none⟩)] (encF (n := ws.length)) (fun x y => remM s all ws (y.val : Int) - remM s all ws (x.val : Int)) blk 0 ws.length w := by
  intro m os dk hsz x y
  have key := sortWorld_far (encF (n := ws.length)) w blk m dk os
  exact cmpM_calls s all ws ad c _ _ _ x.val y.val _ x.isLt y.isLt hs ha hw (fun i hi => key _ _ (by unfold Addr.add; split <;> exact hCb) (hC i hi)) (key _ _ n2 h2) (key _ _ n3 h3) (key _ _ n4 h4)
open Go.Sort in
theorem sortWorld_heap {α : Type} [Inhabited α] (enc : α → Value) (w : World) (blk m : Nat) (dk : Array α) (k : Nat) (h : k ≠ blk) : (sortWorld enc w blk 0 m dk #[]).heap[k]? = w.heap[k]? := by
  unfold sortWorld
  rw [grow_empty]
  show ((Sort.ahead w m).heap.modify blk _)[k]? = _
  rw [Array.getElem?_modify, if_neg (fun e => h e.symm)]
  rfl
open Go.Sort in
theorem sortWorld_below {α : Type} [Inhabited α] (enc : α → Value) (w : World) (blk m : Nat) (dk : Array α) (base : Nat) (h : base ≤ blk) : Below base w (sortWorld enc w blk 0 m dk #[]) := by
  refine ⟨?_, ?_, ?_, ?_, fun k hk => sortWorld_heap enc w blk m dk k (by omega)⟩
  · unfold sortWorld; rw [grow_empty]; rfl
  · unfold sortWorld; rw [grow_empty]; rfl
  · unfold sortWorld; rw [grow_empty]; rfl
  · unfold sortWorld; rw [grow_empty, size_putRow]; exact Nat.le_refl _
def firstM (n : Nat) : Array (Fin n) := Array.ofFn (fun i : Fin n => i)
theorem firstM_size (n : Nat) : (firstM n).size = n := by simp [firstM]
theorem firstM_get (n : Nat) [Inhabited (Fin n)] (j : Nat) (h : j < n) : (firstM n)[j]! = ⟨j, h⟩ := by
  rw [getElem!_pos (firstM n) j (by rw [firstM_size]; exact h)]
  simp [firstM]
def idxF {n : Nat} (i : Fin n) : Int := (i.val : Int)
def ordM (key : Int → Int) (n : Nat) : List Int := srtK key (fun i => i) ((List.range n).map (fun i : Nat => (i : Int)))
theorem firstM_list (n : Nat) : (firstM n).toList.map idxF = (List.range n).map (fun i : Nat => (i : Int)) := by
  apply List.ext_getElem
  · simp [firstM]
  · intro i h1 h2
    simp [firstM, idxF]
open Go.Sort in
theorem sorted_ord (key : Int → Int) (n : Nat) [Inhabited (Fin n)] : (insertionSort (ltOf (fun x y : Fin n => key (y.val : Int) - key (x.val : Int))) (firstM n) 0 n).toList.map idxF = ordM key n := by
  have h := insertionSort_lt2 (fun x : Fin n => key (idxF x)) idxF (firstM n) 0 n (Nat.zero_le _) (by rw [firstM_size]; exact Nat.le_refl _) (fun j k h1 h2 h3 => by
    rw [firstM_get n j (by omega), firstM_get n k h3]; simp only [idxF]; omega)
  have e : ltOf (fun x y : Fin n => key (y.val : Int) - key (x.val : Int)) = ltK (fun x : Fin n => key (idxF x)) := rfl
  rw [e]
  have hsz := firstM_size n
  have h2 := srtK_of (fun x : Fin n => key (idxF x)) idxF (fun x y h => Fin.ext (by simp only [idxF] at h; omega)) (firstM n) _ (by rw [hsz]; exact h.1) (by rw [hsz]; exact h.2)
  rw [h2]
  unfold ordM
  rw [← firstM_list n, ← srtK_map idxF key (fun i => i)]
theorem ordM_mem (key : Int → Int) (n : Nat) (x : Int) (h : x ∈ ordM key n) : 0 ≤ x ∧ x < n := by
  have := (srtK_perm key (fun i => i) _).mem_iff.1 h
  obtain ⟨i, hi, rfl⟩ := List.mem_map.1 this
  have := List.mem_range.1 hi
  omega
theorem ordM_len (key : Int → Int) (n : Nat) : (ordM key n).length = n := by
  have := (srtK_perm key (fun i => i) ((List.range n).map (fun i : Nat => (i : Int)))).length_eq
  simpa [ordM] using this
def incM (L js : List Int) : List Int := js.foldl (fun L j => L.set j.toNat (rd L j + 1)) L
theorem incM_len (js : List Int) : ∀ L, (incM L js).length = L.length := by
  induction js with
  | nil => intro L; rfl
  | cons j r ih => intro L; show (incM (L.set j.toNat (rd L j + 1)) r).length = _; rw [ih]; simp
theorem incM_take (L js : List Int) (k : Nat) (h : k < js.length) : incM L (js.take (k + 1)) = (incM L (js.take k)).set (rd js (k : Int)).toNat (rd (incM L (js.take k)) (rd js (k : Int)) + 1) := by
  unfold incM
  rw [List.take_succ_eq_append_getElem h, List.foldl_append]
  simp [rd, List.getD_eq_getElem?_getD, h]
theorem rd_set (L : List Int) (n : Nat) (x : Int) (i : Int) : rd (L.set n x) i = if n = i.toNat ∧ n < L.length then x else rd L i := by
  unfold rd
  simp only [List.getD_eq_getElem?_getD, List.getElem?_set]
  by_cases h : n = i.toNat
  · subst h
    by_cases h2 : i.toNat < L.length
    · simp [h2]
    · simp [h2]
  · simp [h]
theorem incM_bound (L js : List Int) (B : Int) (hL : ∀ i, 0 ≤ rd L i ∧ rd L i ≤ B) : ∀ k, k ≤ js.length → ∀ i, 0 ≤ rd (incM L (js.take k)) i ∧ rd (incM L (js.take k)) i ≤ B + k
  | 0, _, i => by simpa [incM] using hL i
  | k + 1, hk, i => by
    have ih := incM_bound L js B hL k (by omega)
    rw [incM_take L js k (by omega), rd_set]
    have h1 := ih i
    have h2 := ih (rd js (k : Int))
    split <;> omega
def ints (L : List Int) : Array Value := (L.map (Value.int .i64)).toArray
theorem ints_size (L : List Int) : (ints L).size = L.length := by simp [ints]
theorem ints_get (L : List Int) (k : Nat) (h : k < L.length) : (ints L)[k]? = some (.int .i64 (rd L (k : Int))) := by
  simp [ints, rd, List.getD_eq_getElem?_getD, h]
theorem ints_set (L : List Int) (k : Nat) (x : Int) : (ints L).setIfInBounds k (.int .i64 x) = ints (L.set k x) := by
  simp [ints, List.map_set]
theorem R_of_ints {W : World} {g base : Nat} {ok : Nat → Prop} {L : List Int} (hg : W.heap[g]? = some (.cells (ints L) 3 (0, 0))) (hb : base ≤ g) (hok : ok g) (hl : L.length ≤ maxLen) :
    Kd.R (Kd.int .i64) 3 W base ok (.slice (some ⟨g, 0, none⟩) L.length L.length) L := by
  refine Kd.R_of_own ⟨by simp [encs], .inr ⟨g, L.length, ints L, rfl, hb, hg, Nat.le_refl _, hl, ?_, ?_⟩⟩ (fun k hk => ?_)
  · rw [ints_size, Nat.mul_one]
  · show (ints L).toList.take (L.length * 1) = _
    rw [Nat.mul_one]
    exact List.take_of_length_le (by simp [ints])
  · have : g = k := by simpa [Value.ownBlock] using hk
    subst this; exact hok
def okSum (s : Int) (ws : List Int) : Bool := decide (0 ≤ s) && decide (s ≤ 1000000000) && decide (1 ≤ ws.length) && decide (ws.length ≤ 32) && !(ws.any badW)
def allM (ws : List Int) : Int := ws.foldl (· + ·) 0
theorem allM_take (ws : List Int) (k : Nat) (h : k < ws.length) : allM (ws.take (k + 1)) = allM (ws.take k) + rd ws (k : Int) := by
  unfold allM
  rw [List.take_succ_eq_append_getElem h, List.foldl_append]
  simp [rd, List.getD_eq_getElem?_getD, h]
theorem bad_at {ws : List Int} (h : ws.any badW = false) (i : Int) (h0 : 0 ≤ i) (h1 : i < ws.length) : 0 ≤ rd ws i ∧ rd ws i ≤ 1000000 := by
  obtain ⟨n, rfl⟩ := Int.eq_ofNat_of_zero_le h0
  have hn : n < ws.length := by omega
  have : badW ws[n] = false := by
    rw [List.any_eq_false] at h
    simpa using h ws[n] (List.getElem_mem hn)
  simp only [badW, Bool.or_eq_false_iff, decide_eq_false_iff_not] at this
  have e : rd ws (n : Int) = ws[n] := by simp [rd, List.getD_eq_getElem?_getD, hn]
  rw [e]; omega
theorem allM_bound {ws : List Int} (h : ws.any badW = false) : ∀ k, k ≤ ws.length → 0 ≤ allM (ws.take k) ∧ allM (ws.take k) ≤ k * 1000000
  | 0, _ => by simp [allM]
  | k + 1, hk => by
    have h1 := allM_bound h k (by omega)
    have h2 := bad_at h (k : Int) (by omega) (by omega)
    rw [allM_take ws k (by omega)]
    omega
theorem cA {W : World} {a : Addr} {v : Value} (o : Obj) (h : W.cell? a = some v) : (W.alloc o).cell? a = some v := ((below_alloc (Below.refl W.heap.size W) o).cell (World.block_lt_of_cell? W _ h)).trans h
theorem info_intM : (Try.prog.info? 3).map (fun i => (i.zero, i.size, i.bytes)) = some (some (.int .i64 0), 1, 8) := by kernel_rfl
theorem make_ints (n : Nat) (hn : n ≤ 1000) (W : World) : (Instr.makeSlice 22 (.int .i64 n) (.int .i64 n)).run Try.prog W = .ok (.slice (some ⟨W.heap.size, 0, none⟩) n n) (W.alloc (.cells (ints (List.replicate n 0)) 3)) := by
  obtain ⟨i0, hi, hz0, hz1, hz2⟩ := info_parts info_intM
  have h := run_make (P := Try.prog) W 22 3 i0 _ Try.underlying22 hi hz0 .i64 .i64 (n : Int) (n : Int) (by omega) (by omega) (by rw [hz2]; omega) (by omega)
  rw [hz1] at h
  simp only [Int.toNat_natCast] at h
  rw [h]
  congr 2
  congr 1
  apply Array.ext
  · simp [size_madeCells, ints]
  · intro i h1 h2
    simp [madeCells, ints, Value.cells, Nat.mod_one]
def upM (f : Nat → Int) (n k : Nat) : List Int := (List.range n).map (fun i => if i < k then f i else 0)
theorem upM_len (f : Nat → Int) (n k : Nat) : (upM f n k).length = n := by simp [upM]
theorem upM_zero (f : Nat → Int) (n : Nat) : upM f n 0 = List.replicate n 0 := by
  apply List.ext_getElem
  · simp [upM]
  · intro i h1 h2
    simp [upM]
theorem upM_set (f : Nat → Int) (n k : Nat) : (upM f n k).set k (f k) = upM f n (k + 1) := by
  apply List.ext_getElem
  · simp [upM]
  · intro i h1 h2
    have hi : i < n := by simpa [upM] using h2
    simp only [List.getElem_set, upM, List.getElem_map, List.getElem_range]
    by_cases h : k = i
    · subst h; simp
    · by_cases h3 : i < k
      · simp [h, h3, show i < k + 1 by omega]
      · simp [h, h3, show ¬ i < k + 1 by omega]
def sumF (f : Nat → Int) : Nat → Int
  | 0 => 0
  | k + 1 => sumF f k + f k
def outF (s all : Int) (ws : List Int) (i : Nat) : Int := s * rd ws (i : Int) / all
theorem outF_bound {s all : Int} {ws : List Int} (hs : 0 ≤ s ∧ s ≤ 1000000000) (ha : 1 ≤ all) (hb : ws.any badW = false) (i : Nat) (hi : i < ws.length) : 0 ≤ outF s all ws i ∧ outF s all ws i ≤ 1000000000000000 ∧ 0 ≤ s * rd ws (i : Int) ∧ s * rd ws (i : Int) ≤ 1000000000000000 := by
  have h := bad_at hb (i : Int) (by omega) (by omega)
  have q0 : 0 ≤ s * rd ws (i : Int) := Int.mul_nonneg hs.1 h.1
  have q1 : s * rd ws (i : Int) ≤ 1000000000 * 1000000 := Int.mul_le_mul hs.2 h.2 h.1 (by decide)
  have q2 : outF s all ws i ≤ s * rd ws (i : Int) := Int.ediv_le_self _ q0
  exact ⟨Int.ediv_nonneg q0 (by omega), by omega, q0, by omega⟩
theorem sumF_bound {s all : Int} {ws : List Int} (hs : 0 ≤ s ∧ s ≤ 1000000000) (ha : 1 ≤ all) (hb : ws.any badW = false) : ∀ k, k ≤ ws.length → 0 ≤ sumF (outF s all ws) k ∧ sumF (outF s all ws) k ≤ k * 1000000000000000 ∧ all * sumF (outF s all ws) k ≤ s * allM (ws.take k) ∧ s * allM (ws.take k) ≤ all * sumF (outF s all ws) k + k * (all - 1)
  | 0, _ => by simp [sumF, allM]
  | k + 1, hk => by
    obtain ⟨h1, h2, h3, h4⟩ := sumF_bound hs ha hb k (by omega)
    obtain ⟨g1, g2, g3, g4⟩ := outF_bound hs ha hb k (by omega)
    have e1 : all * outF s all ws k + (s * rd ws (k : Int)) % all = s * rd ws (k : Int) := Int.mul_ediv_add_emod _ _
    have e2 : 0 ≤ (s * rd ws (k : Int)) % all := Int.emod_nonneg _ (by omega)
    have e3 : (s * rd ws (k : Int)) % all < all := Int.emod_lt_of_pos _ (by omega)
    have e4 : s * (allM (ws.take k) + rd ws (k : Int)) = s * allM (ws.take k) + s * rd ws (k : Int) := Int.mul_add _ _ _
    have e5 : all * (sumF (outF s all ws) k + outF s all ws k) = all * sumF (outF s all ws) k + all * outF s all ws k := Int.mul_add _ _ _
    have e6 : ((k + 1 : Nat) : Int) * (all - 1) = (k : Int) * (all - 1) + (all - 1) := by rw [Int.natCast_add, Int.add_mul]; simp
    rw [allM_take ws k (by omega), e4]
    show 0 ≤ sumF (outF s all ws) k + outF s all ws k ∧ sumF (outF s all ws) k + outF s all ws k ≤ _ ∧ all * (sumF (outF s all ws) k + outF s all ws k) ≤ _ ∧ _ ≤ all * (sumF (outF s all ws) k + outF s all ws k) + _
    rw [e5, e6]
    refine ⟨by omega, by omega, by omega, by omega⟩
theorem left_bound {s : Int} {ws : List Int} (hs : 0 ≤ s ∧ s ≤ 1000000000) (ha : 1 ≤ allM ws) (hb : ws.any badW = false) (hn : 1 ≤ ws.length) : 0 ≤ s - sumF (outF s (allM ws) ws) ws.length ∧ s - sumF (outF s (allM ws) ws) ws.length < ws.length := by
  obtain ⟨_, _, h3, h4⟩ := sumF_bound hs ha hb ws.length (Nat.le_refl _)
  rw [List.take_length] at h3 h4
  generalize sumF (outF s (allM ws) ws) ws.length = S at *
  generalize hA : allM ws = all at *
  have h5 : all * S ≤ all * s := by rw [Int.mul_comm all s]; exact h3
  have h6 : S ≤ s := Int.le_of_mul_le_mul_left h5 (by omega)
  refine ⟨by omega, ?_⟩
  have h7 : all * (s - S) ≤ (ws.length : Int) * (all - 1) := by rw [Int.mul_sub, Int.mul_comm all s]; omega
  have h8 : (ws.length : Int) * (all - 1) < (ws.length : Int) * all := Int.mul_lt_mul_of_pos_left (by omega) (by omega)
  have h9 : all * (s - S) < all * ws.length := by rw [Int.mul_comm all (ws.length : Int)]; omega
  exact Int.lt_of_mul_lt_mul_left h9 (by omega)
def splitM (s : Int) (ws : List Int) : List Int := incM (upM (outF s (allM ws) ws) ws.length ws.length) ((ordM (remM s (allM ws) ws) ws.length).take (s - sumF (outF s (allM ws) ws) ws.length).toNat)
set_option maxHeartbeats 8000000 in
set_option maxRecDepth 100000 in
theorem split_good (s : Int) (ws : List Int) (A : Option Addr) (c : Nat) (w : World) (hs : 0 ≤ s ∧ s ≤ 1000000000) (hn : 1 ≤ ws.length) (hn2 : ws.length < 20) (hbad : ws.any badW = false) (hall : allM ws ≠ 0) (hr1 : (Kd.int .i64).C w A ws.length ws) (hc1 : ws.length ≤ c) :
    Calls Try.prog 17 #[.int .i64 s, .slice A ws.length c] w fun e w' => ∃ v0_ : Value, e = .returned (.tuple #[v0_, .int .i64 0]) ∧ Kd.R (Kd.int .i64) 3 w' w.heap.size (fun _ => True) v0_ (splitM s ws) ∧ Below w.heap.size w w' := by
  obtain ⟨ad, hAd, hc0⟩ := Kd.at_int hr1 0 (by omega) (by omega)
  subst hAd
  have hcell : ∀ i : Nat, i < ws.length → w.cell? (ad.add i) = some (.int .i64 (rd ws (i : Int))) := by
    intro i hi
    obtain ⟨ad', h1, h2⟩ := Kd.at_int hr1 (i : Int) (by omega) (by omega)
    obtain rfl : ad = ad' := by simpa using h1
    simpa using h2
  clear hc0
  have d1 : decide (s < 0) = false := decide_eq_false (by omega)
  have d2 : decide (s > 1000000000) = false := decide_eq_false (by omega)
  have d3 : decide ((ws.length : Int) < 1) = false := decide_eq_false (by omega)
  have d4 : decide ((ws.length : Int) > 32) = false := decide_eq_false (by omega)
  have HBD := Aside0.mk hbad
  have HS := Aside0.mk hs
  have HALL := Aside0.mk hall
  have HR := Aside0.mk hr1
  have HCELL := Aside0.mk hcell
  have hbnd := Aside0.mk (fun k hk => allM_bound hbad k hk)
  clear hs hbad hall hr1 hcell
  go_enter Try.func17, Try.ntmps17
  go_wp2_with fail
  refine (containsM_calls (some ad) c ws _ (Kd.C_below HR.out (below_alloc (below_alloc (Below.refl _ w) _) _)) (by omega)).mono ?_
  rintro e w' ⟨rfl, rfl⟩
  rw [HBD.out]
  go_wp2_with fail
  have hz1 : (w.alloc (.cells #[.int .i64 s] 3)).heap.size = w.heap.size + 1 := by simp
  have hz2 : ((w.alloc (.cells #[.int .i64 s] 3)).alloc (.cells #[.slice (some ad) ws.length c] 22)).heap.size = w.heap.size + 1 + 1 := by simp
  have B2 := Aside0.mk (show ((((w.alloc (.cells #[.int .i64 s] 3)).alloc (.cells #[.slice (some ad) ws.length c] 22)).alloc (.cells #[.int .i64 0] 3))).heap[w.heap.size]? = some (.cells #[.int .i64 s] 3 (0, 0)) from blk_alloc (blk_alloc (blk_new w _) _) _)
  have B3 := Aside0.mk (show ((((w.alloc (.cells #[.int .i64 s] 3)).alloc (.cells #[.slice (some ad) ws.length c] 22)).alloc (.cells #[.int .i64 0] 3))).heap[w.heap.size + 1]? = some (.cells #[.slice (some ad) ws.length c] 22 (0, 0)) from by have h_ := blk_alloc (blk_new (w.alloc (.cells #[.int .i64 s] 3)) (.cells #[.slice (some ad) ws.length c] 22)) (.cells #[.int .i64 0] 3); rw [hz1] at h_; exact h_)
  have B7 := Aside0.mk (show ((((w.alloc (.cells #[.int .i64 s] 3)).alloc (.cells #[.slice (some ad) ws.length c] 22)).alloc (.cells #[.int .i64 0] 3))).heap[w.heap.size + 1 + 1]? = some (.cells #[.int .i64 (allM (ws.take 0))] 3 (0, 0)) from by have h_ := blk_new ((w.alloc (.cells #[.int .i64 s] 3)).alloc (.cells #[.slice (some ad) ws.length c] 22)) (.cells #[.int .i64 0] 3); rw [hz2] at h_; exact h_)
  clear hz1 hz2
  have HB := Aside0.mk (below_alloc (below_alloc (below_alloc (Below.refl _ w) (.cells #[.int .i64 s] 3)) (.cells #[.slice (some ad) ws.length c] 22)) (.cells #[.int .i64 0] 3))
  have N23 := Aside0.mk (show w.heap.size ≠ w.heap.size + 1 by omega)
  have N27 := Aside0.mk (show w.heap.size ≠ w.heap.size + 1 + 1 by omega)
  have N37 := Aside0.mk (show w.heap.size + 1 ≠ w.heap.size + 1 + 1 by omega)
  have G2 := Aside0.mk (Nat.le_refl w.heap.size)
  have G3 := Aside0.mk (show w.heap.size ≤ w.heap.size + 1 by omega)
  have G7 := Aside0.mk (show w.heap.size ≤ w.heap.size + 1 + 1 by omega)
  generalize ((w.alloc (.cells #[.int .i64 s] 3)).alloc (.cells #[.slice (some ad) ws.length c] 22)).alloc (.cells #[.int .i64 0] 3) = W1 at *
  obtain ⟨g7, h7⟩ : ∃ g, g = w.heap.size + 1 + 1 := ⟨_, rfl⟩
  rw [← h7] at B7 N27 N37 G7 ⊢
  clear h7
  obtain ⟨g3, h3⟩ : ∃ g, g = w.heap.size + 1 := ⟨_, rfl⟩
  rw [← h3] at B3 N23 N37 G3 ⊢
  clear h3
  obtain ⟨g2, h2⟩ : ∃ g, g = w.heap.size := ⟨_, rfl⟩
  rw [← h2] at B2 N23 N27 ⊢
  have G2 := Aside0.mk (Nat.le_of_eq h2.symm)
  clear h2
  go_loopw [40] (fun i wr => ∃ k : Nat, k ≤ ws.length ∧ i = .int .i64 k ∧ Aside0 (wr.heap[g7]? = some (.cells #[.int .i64 (allM (ws.take k))] 3 (0, 0))) ∧ Aside0 (wr.heap[g2]? = some (.cells #[.int .i64 s] 3 (0, 0))) ∧ Aside0 (wr.heap[g3]? = some (.cells #[.slice (some ad) ws.length c] 22 (0, 0))) ∧ Aside0 (Below w.heap.size w wr)) (fun i _ => ws.length - (intOf i).toNat)
  case atStart => exact ⟨0, by omega, rfl, B7, B2, B3, HB⟩
  case round =>
    clear B2 B3 B7 HB
    obtain ⟨k, hk, rfl, B7, B2, B3, HB⟩ := hrel
    obtain ⟨hc7, hf7⟩ := bx1 B7
    obtain ⟨hc2, hf2⟩ := bx1 B2
    obtain ⟨hc3, hf3⟩ := bx1 B3
    by_cases hlt : k < ws.length
    · have hcell := cB HB (HCELL.out k hlt)
      have h1 := hbnd.out k hk
      have h2 := hbnd.out (k + 1) hlt
      have h3 := allM_take ws k hlt
      have hsum : wrap64 (allM (ws.take k) + rd ws (k : Int)) = allM (ws.take (k + 1)) := by rw [h3]; unfold wrap64; omega
      clear h1 h2 h3
      go_wp2_with fail
      go_roundw
      case rel => exact ⟨k + 1, by omega, by go_num, ⟨kN B7⟩, ⟨kN B2⟩, ⟨kN B3⟩, ⟨kB1 HB G7⟩⟩
      case measure => simp [intOf]; omega
    · obtain rfl : k = ws.length := by omega
      rw [List.take_length] at B7
      clear hc7 hf7
      obtain ⟨hc7, hf7⟩ := bx1 B7
      have hne := HALL.out
      have heq : (allM ws == 0) = false := by simpa using hne
      go_wp2_with fail
      have hmk := make_ints ws.length (by omega)
      go_cut [10, 11, 12] (fun v10 v11 v12 wc => ∃ bo br : Nat, v10 = .slice (some ⟨bo, 0, none⟩) ws.length ws.length ∧ v11 = .slice (some ⟨br, 0, none⟩) ws.length ws.length ∧ v12 = .int .i64 s ∧ Aside0 (wc.heap[bo]? = some (.cells (ints (List.replicate ws.length 0)) 3 (0, 0))) ∧ Aside0 (wc.heap[br]? = some (.cells (ints (List.replicate ws.length 0)) 3 (0, 0))) ∧ Aside0 (wc.heap[g7]? = some (.cells #[.int .i64 (allM ws)] 3 (0, 0))) ∧ Aside0 (wc.heap[g2]? = some (.cells #[.int .i64 s] 3 (0, 0))) ∧ Aside0 (wc.heap[g3]? = some (.cells #[.slice (some ad) ws.length c] 22 (0, 0))) ∧ Aside0 (Below w.heap.size w wc) ∧ Aside0 (bo ≠ br) ∧ Aside0 (g7 ≠ bo) ∧ Aside0 (g2 ≠ bo) ∧ Aside0 (g3 ≠ bo) ∧ Aside0 (g7 ≠ br) ∧ Aside0 (g2 ≠ br) ∧ Aside0 (g3 ≠ br) ∧ Aside0 (w.heap.size ≤ bo) ∧ Aside0 (w.heap.size ≤ br))
      case first =>
        go_region_held3 (fun w' => w'.cell? ⟨g3, 0, none⟩ = some (.slice (some ad) ws.length c) ∧ w'.cell? ⟨g2, 0, none⟩ = some (.int .i64 s))
          (first
            | go_keep
            | exact ⟨cA _ hc3, cA _ hc2⟩
            | exact ⟨cA _ (cA _ hc3), cA _ (cA _ hc2)⟩)
          (fail)
        all_goals
          have q1 : ((wr.alloc (.cells (ints (List.replicate ws.length 0)) 3)).alloc (.cells (ints (List.replicate ws.length 0)) 3)).heap[wr.heap.size]? = some (.cells (ints (List.replicate ws.length 0)) 3 (0, 0)) := blk_alloc (blk_new wr _) _
          have q2 : ((wr.alloc (.cells (ints (List.replicate ws.length 0)) 3)).alloc (.cells (ints (List.replicate ws.length 0)) 3)).heap[wr.heap.size + 1]? = some (.cells (ints (List.replicate ws.length 0)) 3 (0, 0)) := by
            have h_ := blk_new (wr.alloc (.cells (ints (List.replicate ws.length 0)) 3)) (.cells (ints (List.replicate ws.length 0)) 3)
            have hz : (wr.alloc (.cells (ints (List.replicate ws.length 0)) 3)).heap.size = wr.heap.size + 1 := by simp
            rw [hz] at h_; exact h_
          have l7 := blk_lt B7.out
          have l2 := blk_lt B2.out
          have l3 := blk_lt B3.out
          have lw := HB.out.size
          go_wp2
          go_meet
          case rel => first
            | exact ⟨wr.heap.size, wr.heap.size + 1, rfl, rfl, rfl, ⟨blk_drew q1⟩, ⟨blk_drew q2⟩, ⟨kN B7⟩, ⟨kN B2⟩, ⟨kN B3⟩, ⟨kB HB⟩, ⟨by omega⟩, ⟨by omega⟩, ⟨by omega⟩, ⟨by omega⟩, ⟨by omega⟩, ⟨by omega⟩, ⟨by omega⟩, ⟨by omega⟩, ⟨by omega⟩⟩
            | exact ⟨wr.heap.size + 1, wr.heap.size, rfl, rfl, rfl, ⟨blk_drew q2⟩, ⟨blk_drew q1⟩, ⟨kN B7⟩, ⟨kN B2⟩, ⟨kN B3⟩, ⟨kB HB⟩, ⟨by omega⟩, ⟨by omega⟩, ⟨by omega⟩, ⟨by omega⟩, ⟨by omega⟩, ⟨by omega⟩, ⟨by omega⟩, ⟨by omega⟩, ⟨by omega⟩⟩
      case rest =>
        clear B2 B3 B7 HB hc2 hf2 hc3 hf3 hc7 hf7 hmk
        obtain ⟨bo, br, rfl, rfl, rfl, BO, BR, B7, B2, B3, HB, Nor, N7o, N2o, N3o, N7r, N2r, N3r, Gob, Gbr⟩ := hcut
        have Nro := Aside0.mk Nor.out.symm
        obtain ⟨hc3, hf3⟩ := bx1 B3
        go_wp2_with fail
        have ha0 := (allM_bound HBD.out ws.length (Nat.le_refl _)).1
        rw [List.take_length] at ha0
        have HA1 := Aside0.mk (show 1 ≤ allM ws by have := HALL.out; omega)
        clear ha0 hbnd
        rw [← upM_zero (outF s (allM ws) ws)] at BO
        rw [← upM_zero (fun i : Nat => (i : Int))] at BR
        have hz1 : (allM ws == 0) = false := by have := HA1.out; simp; omega
        have hz2 : allM ws ≠ 0 := by have := HA1.out; omega
        go_loopw [12, 59] (fun l i wr => ∃ k : Nat, k ≤ ws.length ∧ i = .int .i64 k ∧ l = .int .i64 (s - sumF (outF s (allM ws) ws) k) ∧ Aside0 (wr.heap[bo]? = some (.cells (ints (upM (outF s (allM ws) ws) ws.length k)) 3 (0, 0))) ∧ Aside0 (wr.heap[br]? = some (.cells (ints (upM (fun i : Nat => (i : Int)) ws.length k)) 3 (0, 0))) ∧ Aside0 (wr.heap[g7]? = some (.cells #[.int .i64 (allM ws)] 3 (0, 0))) ∧ Aside0 (wr.heap[g2]? = some (.cells #[.int .i64 s] 3 (0, 0))) ∧ Aside0 (wr.heap[g3]? = some (.cells #[.slice (some ad) ws.length c] 22 (0, 0))) ∧ Aside0 (Below w.heap.size w wr)) (fun l i _ => ws.length - (intOf i).toNat)
        case atStart => exact ⟨0, by omega, rfl, by simp [sumF], BO, BR, B7, B2, B3, HB⟩
        case round =>
          clear BO BR B2 B3 B7 HB hc3 hf3
          obtain ⟨k, hk, rfl, rfl, BO, BR, B7, B2, B3, HB⟩ := hrel
          obtain ⟨hc7, hf7⟩ := bx1 B7
          obtain ⟨hc2, hf2⟩ := bx1 B2
          obtain ⟨hc3, hf3⟩ := bx1 B3
          by_cases hlt : k < ws.length
          · have hcell := cB HB (HCELL.out k hlt)
            obtain ⟨p1, p2, p3, p4⟩ := outF_bound HS.out HA1.out HBD.out k hlt
            obtain ⟨p5, p6, _, _⟩ := sumF_bound HS.out HA1.out HBD.out k hk
            have hS := HS.out
            have e1 : wrap64 (s * rd ws (k : Int)) = s * rd ws (k : Int) := by unfold wrap64; omega
            have e2 : (s * rd ws (k : Int)).tdiv (allM ws) = outF s (allM ws) ws k := Int.tdiv_eq_ediv_of_nonneg p3
            have e3 : wrap64 (outF s (allM ws) ws k) = outF s (allM ws) ws k := by unfold wrap64; omega
            have e4 : wrap64 (s - sumF (outF s (allM ws) ws) k - outF s (allM ws) ws k) = s - sumF (outF s (allM ws) ws) (k + 1) := by
              show _ = s - (sumF (outF s (allM ws) ws) k + outF s (allM ws) ws k)
              unfold wrap64; omega
            clear p1 p2 p3 p4 p5 p6 hS
            have hco : wr.cell? ⟨bo, k, none⟩ = some (.int .i64 (rd (upM (outF s (allM ws) ws) ws.length k) (k : Int))) := (blk_cell BO.out k).trans (ints_get _ k (by rw [upM_len]; exact hlt))
            have hfo := blk_frozen BO.out k
            have hcr : wr.cell? ⟨br, k, none⟩ = some (.int .i64 (rd (upM (fun i : Nat => (i : Int)) ws.length k) (k : Int))) := (blk_cell BR.out k).trans (ints_get _ k (by rw [upM_len]; exact hlt))
            have hfr := blk_frozen BR.out k
            have n1 := Nor.out
            have n2 := Nro.out
            have n3 := N7o.out
            have n4 := N2o.out
            go_wp2_with fail
            go_roundw
            case rel => exact ⟨k + 1, by omega, by go_num, by go_num, ⟨blk_far (blk_put BO.out k _ ((ints_set _ _ _).trans (congrArg ints (upM_set _ _ _)))) Nor.out _⟩, ⟨blk_put (blk_far BR.out Nro.out _) k _ ((ints_set _ _ _).trans (congrArg ints (upM_set _ _ _)))⟩, ⟨kN B7⟩, ⟨kN B2⟩, ⟨kN B3⟩, ⟨kB2 HB Gob Gbr⟩⟩
            case measure => simp [intOf]; omega
          · obtain rfl : k = ws.length := by omega
            have hI : Inhabited (Fin ws.length) := ⟨⟨0, by omega⟩⟩
            have hadw : ad.block < w.heap.size := by
              have h_ := World.block_lt_of_cell? w _ (HCELL.out 0 (by omega))
              unfold Addr.add at h_
              simpa using h_
            have hcmp := cmpM_reads s (allM ws) ws ad c g2 g3 g7 br wr HS.out ⟨HA1.out, by have h_ := allM_bound HBD.out ws.length (Nat.le_refl _); rw [List.take_length] at h_; omega⟩ (bad_at HBD.out) (fun i hi => cB HB (HCELL.out i hi)) (by have := Gbr.out; omega) hc2 hc3 hc7 N2r.out N3r.out N7r.out hI
            have hH : Go.Sort.Holds (encF (n := ws.length)) wr br 0 (firstM ws.length) := by
              intro j hj
              rw [firstM_size] at hj
              rw [firstM_get ws.length j hj, Nat.zero_add]
              refine ⟨(blk_cell BR.out j).trans ((ints_get _ j (by rw [upM_len]; exact hj)).trans ?_), blk_frozen BR.out j⟩
              simp [rd, upM, encF, List.getD_eq_getElem?_getD, hj]
            have hsort := sortM 30 #[.pointer (some ⟨g2, 0, none⟩), .pointer (some ⟨g3, 0, none⟩), .pointer (some ⟨g7, 0, none⟩)] ws.length (fun x y => remM s (allM ws) ws (y.val : Int) - remM s (allM ws) ws (x.val : Int)) br ws.length (firstM ws.length) wr (firstM_size _) hn2 (enters_of Try.func30 (by kernel_rfl) rfl) hcmp hH (blk_lt BR.out)
            obtain ⟨hL0, hL1⟩ := left_bound HS.out HA1.out HBD.out hn
            obtain ⟨L, hL⟩ := Int.eq_ofNat_of_zero_le hL0
            rw [hL] at hL1
            have hLn : L < ws.length := by omega
            have hsort2 := hsort.mono (R' := fun e w' => e = .returned (.tuple #[]) ∧ Aside0 (∀ j : Nat, j < ws.length → w'.cell? ⟨br, j, none⟩ = some (.int .i64 (rd (ordM (remM s (allM ws) ws) ws.length) (j : Int)))) ∧ Aside0 (w'.heap[bo]? = some (.cells (ints (upM (outF s (allM ws) ws) ws.length ws.length)) 3 (0, 0))) ∧ Aside0 (Below w.heap.size w w')) (by
              rintro e w' ⟨rfl, m, rfl⟩
              have hsz : (Go.Sort.insertionSort (ltOf (fun x y : Fin ws.length => remM s (allM ws) ws (y.val : Int) - remM s (allM ws) ws (x.val : Int))) (firstM ws.length) 0 ws.length).size = ws.length := by rw [insertionSort_sz, firstM_size]
              have ho := sorted_ord (remM s (allM ws) ws) ws.length
              have hh := holds_sortWorld (encF (n := ws.length)) wr br 0 m (firstM ws.length) _ #[] (blk_lt BR.out) hH (by rw [hsz, firstM_size])
              refine ⟨rfl, ⟨fun j hj => ?_⟩, ⟨(sortWorld_heap _ wr br m _ bo Nor.out).trans BO.out⟩, ⟨HB.out.trans (sortWorld_below _ wr br m _ w.heap.size Gbr.out)⟩⟩
              have h1 := (hh j (by rw [hsz]; exact hj)).1
              rw [Nat.zero_add] at h1
              rw [h1, ← ho, getElem!_pos _ j (by rw [hsz]; exact hj)]
              simp [rd, List.getD_eq_getElem?_getD, hsz, hj, encF, idxF])
            clear hcmp hH hsort BO BR B7 B2 B3 HB hc2 hf2 hc3 hf3 hc7 hf7
            rw [hL]
            have hd1 : decide ((L : Int) ≤ (ws.length : Int)) = true := decide_eq_true (by omega)
            go_wp2_with (go_at_call 29; (with_reducible refine hsort2.mono ?_); rintro e w1 ⟨rfl, CR, BO, HB⟩)
            have hcap : ∀ i, 0 ≤ rd (upM (outF s (allM ws) ws) ws.length ws.length) i ∧ rd (upM (outF s (allM ws) ws) ws.length ws.length) i ≤ 1000000000000000 := by
              intro i
              by_cases hi : i.toNat < ws.length
              · have e : rd (upM (outF s (allM ws) ws) ws.length ws.length) i = outF s (allM ws) ws i.toNat := by simp [rd, upM, List.getD_eq_getElem?_getD, hi]
                rw [e]
                have := outF_bound HS.out HA1.out HBD.out i.toNat hi
                omega
              · have e : rd (upM (outF s (allM ws) ws) ws.length ws.length) i = 0 := by simp [rd, upM, List.getD_eq_getElem?_getD, hi]
                rw [e]; omega
            have HCAP := Aside0.mk hcap
            have hol := ordM_len (remM s (allM ws) ws) ws.length
            have hom := ordM_mem (remM s (allM ws) ws) ws.length
            have HRES := Aside0.mk (show splitM s ws = incM (upM (outF s (allM ws) ws) ws.length ws.length) ((ordM (remM s (allM ws) ws) ws.length).take L) from by unfold splitM; rw [hL, Int.toNat_natCast])
            generalize ordM (remM s (allM ws) ws) ws.length = O at *
            generalize hU : upM (outF s (allM ws) ws) ws.length ws.length = U at *
            have hUl : U.length = ws.length := by rw [← hU, upM_len]
            clear hU hcap
            have HUL := Aside0.mk hUl
            have HOL := Aside0.mk hol
            have HOM := Aside0.mk hom
            clear hUl hol hom
            go_loopw [90] (fun i wr => ∃ k : Nat, k ≤ L ∧ i = .int .i64 k ∧ Aside0 (wr.heap[bo]? = some (.cells (ints (incM U (O.take k))) 3 (0, 0))) ∧ Aside0 (∀ j : Nat, j < ws.length → wr.cell? ⟨br, j, none⟩ = some (.int .i64 (rd O (j : Int)))) ∧ Aside0 (Below w.heap.size w wr)) (fun i _ => L - (intOf i).toNat)
            case atStart => exact ⟨0, by omega, rfl, BO, CR, HB⟩
            case round =>
              clear BO CR HB
              obtain ⟨k, hk, rfl, BO, CR, HB⟩ := hrel
              by_cases hlt : k < L
              · have hcr := CR.out k (by omega)
                have hkO : k < O.length := by rw [HOL.out]; omega
                have hmem : rd O (k : Int) ∈ O := by
                  have e : rd O (k : Int) = O[k] := by simp [rd, List.getD_eq_getElem?_getD, hkO]
                  rw [e]; exact List.getElem_mem hkO
                obtain ⟨o0, o1⟩ := HOM.out _ hmem
                have hstep := incM_take U O k hkO
                have hbnd := incM_bound U O 1000000000000000 HCAP.out k (by omega) (rd O (k : Int))
                obtain ⟨q, hq⟩ := Int.eq_ofNat_of_zero_le o0
                rw [hq] at hcr o1 hstep hbnd
                have hql : q < ws.length := by omega
                have hlen : (incM U (O.take k)).length = ws.length := by rw [incM_len]; exact HUL.out
                have hco : wr.cell? ⟨bo, q, none⟩ = some (.int .i64 (rd (incM U (O.take k)) (q : Int))) := (blk_cell BO.out q).trans (ints_get _ q (by rw [hlen]; exact hql))
                have hfo := blk_frozen BO.out q
                have e1 : wrap64 (rd (incM U (O.take k)) (q : Int) + 1) = rd (incM U (O.take k)) (q : Int) + 1 := by unfold wrap64; omega
                rw [Int.toNat_natCast] at hstep
                have HSTEP := Aside0.mk hstep
                clear hstep hbnd hlen hmem o0
                go_wp2_with fail
                go_roundw
                case rel => exact ⟨k + 1, by omega, by go_num, ⟨blk_put BO.out q _ ((ints_set _ _ _).trans (congrArg ints HSTEP.out.symm))⟩, ⟨fun j hj => (cell_far Nro.out _).trans (CR.out j hj)⟩, ⟨kB1 HB Gob⟩⟩
                case measure => simp [intOf]; omega
              · obtain rfl : k = L := by omega
                go_wp2_with fail
                have hR := R_of_ints (base := w.heap.size) (ok := fun _ => True) BO.out Gob.out trivial (by rw [incM_len, HUL.out]; unfold maxLen; omega)
                rw [incM_len, HUL.out, ← HRES.out] at hR
                exact bodyPost_ret (v := .tuple #[.slice (some ⟨bo, 0, none⟩) ws.length ws.length, .int .i64 0]) (by simp [results, Try.results17, go_sem]) rfl ⟨_, rfl, hR, HB.out⟩
set_option maxHeartbeats 8000000 in
set_option maxRecDepth 100000 in
theorem split_zero (s : Int) (ws : List Int) (A : Option Addr) (c : Nat) (w : World) (hs : 0 ≤ s ∧ s ≤ 1000000000) (hn : 1 ≤ ws.length) (hn2 : ws.length ≤ 32) (hbad : ws.any badW = false) (hall : allM ws = 0) (hr1 : (Kd.int .i64).C w A ws.length ws) (hc1 : ws.length ≤ c) :
    Calls Try.prog 17 #[.int .i64 s, .slice A ws.length c] w fun e w' => e = .returned (.tuple #[.slice none 0 0, .int .i64 1]) ∧ Below w.heap.size w w' := by
  obtain ⟨ad, hAd, hc0⟩ := Kd.at_int hr1 0 (by omega) (by omega)
  subst hAd
  have hcell : ∀ i : Nat, i < ws.length → w.cell? (ad.add i) = some (.int .i64 (rd ws (i : Int))) := by
    intro i hi
    obtain ⟨ad', h1, h2⟩ := Kd.at_int hr1 (i : Int) (by omega) (by omega)
    obtain rfl : ad = ad' := by simpa using h1
    simpa using h2
  clear hc0
  have d1 : decide (s < 0) = false := decide_eq_false (by omega)
  have d2 : decide (s > 1000000000) = false := decide_eq_false (by omega)
  have d3 : decide ((ws.length : Int) < 1) = false := decide_eq_false (by omega)
  have d4 : decide ((ws.length : Int) > 32) = false := decide_eq_false (by omega)
  have HBD := Aside0.mk hbad
  have HS := Aside0.mk hs
  have HALL := Aside0.mk hall
  have HR := Aside0.mk hr1
  have HCELL := Aside0.mk hcell
  have hbnd := Aside0.mk (fun k hk => allM_bound hbad k hk)
  clear hs hbad hall hr1 hcell
  go_enter Try.func17, Try.ntmps17
  go_wp2_with fail
  refine (containsM_calls (some ad) c ws _ (Kd.C_below HR.out (below_alloc (below_alloc (Below.refl _ w) _) _)) (by omega)).mono ?_
  rintro e w' ⟨rfl, rfl⟩
  rw [HBD.out]
  go_wp2_with fail
  have hz1 : (w.alloc (.cells #[.int .i64 s] 3)).heap.size = w.heap.size + 1 := by simp
  have hz2 : ((w.alloc (.cells #[.int .i64 s] 3)).alloc (.cells #[.slice (some ad) ws.length c] 22)).heap.size = w.heap.size + 1 + 1 := by simp
  have B2 := Aside0.mk (show ((((w.alloc (.cells #[.int .i64 s] 3)).alloc (.cells #[.slice (some ad) ws.length c] 22)).alloc (.cells #[.int .i64 0] 3))).heap[w.heap.size]? = some (.cells #[.int .i64 s] 3 (0, 0)) from blk_alloc (blk_alloc (blk_new w _) _) _)
  have B3 := Aside0.mk (show ((((w.alloc (.cells #[.int .i64 s] 3)).alloc (.cells #[.slice (some ad) ws.length c] 22)).alloc (.cells #[.int .i64 0] 3))).heap[w.heap.size + 1]? = some (.cells #[.slice (some ad) ws.length c] 22 (0, 0)) from by have h_ := blk_alloc (blk_new (w.alloc (.cells #[.int .i64 s] 3)) (.cells #[.slice (some ad) ws.length c] 22)) (.cells #[.int .i64 0] 3); rw [hz1] at h_; exact h_)
  have B7 := Aside0.mk (show ((((w.alloc (.cells #[.int .i64 s] 3)).alloc (.cells #[.slice (some ad) ws.length c] 22)).alloc (.cells #[.int .i64 0] 3))).heap[w.heap.size + 1 + 1]? = some (.cells #[.int .i64 (allM (ws.take 0))] 3 (0, 0)) from by have h_ := blk_new ((w.alloc (.cells #[.int .i64 s] 3)).alloc (.cells #[.slice (some ad) ws.length c] 22)) (.cells #[.int .i64 0] 3); rw [hz2] at h_; exact h_)
  clear hz1 hz2
  have HB := Aside0.mk (below_alloc (below_alloc (below_alloc (Below.refl _ w) (.cells #[.int .i64 s] 3)) (.cells #[.slice (some ad) ws.length c] 22)) (.cells #[.int .i64 0] 3))
  have N23 := Aside0.mk (show w.heap.size ≠ w.heap.size + 1 by omega)
  have N27 := Aside0.mk (show w.heap.size ≠ w.heap.size + 1 + 1 by omega)
  have N37 := Aside0.mk (show w.heap.size + 1 ≠ w.heap.size + 1 + 1 by omega)
  have G2 := Aside0.mk (Nat.le_refl w.heap.size)
  have G3 := Aside0.mk (show w.heap.size ≤ w.heap.size + 1 by omega)
  have G7 := Aside0.mk (show w.heap.size ≤ w.heap.size + 1 + 1 by omega)
  generalize ((w.alloc (.cells #[.int .i64 s] 3)).alloc (.cells #[.slice (some ad) ws.length c] 22)).alloc (.cells #[.int .i64 0] 3) = W1 at *
  obtain ⟨g7, h7⟩ : ∃ g, g = w.heap.size + 1 + 1 := ⟨_, rfl⟩
  rw [← h7] at B7 N27 N37 G7 ⊢
  clear h7
  obtain ⟨g3, h3⟩ : ∃ g, g = w.heap.size + 1 := ⟨_, rfl⟩
  rw [← h3] at B3 N23 N37 G3 ⊢
  clear h3
  obtain ⟨g2, h2⟩ : ∃ g, g = w.heap.size := ⟨_, rfl⟩
  rw [← h2] at B2 N23 N27 ⊢
  have G2 := Aside0.mk (Nat.le_of_eq h2.symm)
  clear h2
  go_loopw [40] (fun i wr => ∃ k : Nat, k ≤ ws.length ∧ i = .int .i64 k ∧ Aside0 (wr.heap[g7]? = some (.cells #[.int .i64 (allM (ws.take k))] 3 (0, 0))) ∧ Aside0 (wr.heap[g2]? = some (.cells #[.int .i64 s] 3 (0, 0))) ∧ Aside0 (wr.heap[g3]? = some (.cells #[.slice (some ad) ws.length c] 22 (0, 0))) ∧ Aside0 (Below w.heap.size w wr)) (fun i _ => ws.length - (intOf i).toNat)
  case atStart => exact ⟨0, by omega, rfl, B7, B2, B3, HB⟩
  case round =>
    clear B2 B3 B7 HB
    obtain ⟨k, hk, rfl, B7, B2, B3, HB⟩ := hrel
    obtain ⟨hc7, hf7⟩ := bx1 B7
    obtain ⟨hc2, hf2⟩ := bx1 B2
    obtain ⟨hc3, hf3⟩ := bx1 B3
    by_cases hlt : k < ws.length
    · have hcell := cB HB (HCELL.out k hlt)
      have h1 := hbnd.out k hk
      have h2 := hbnd.out (k + 1) hlt
      have h3 := allM_take ws k hlt
      have hsum : wrap64 (allM (ws.take k) + rd ws (k : Int)) = allM (ws.take (k + 1)) := by rw [h3]; unfold wrap64; omega
      clear h1 h2 h3
      go_wp2_with fail
      go_roundw
      case rel => exact ⟨k + 1, by omega, by go_num, ⟨kN B7⟩, ⟨kN B2⟩, ⟨kN B3⟩, ⟨kB1 HB G7⟩⟩
      case measure => simp [intOf]; omega
    · obtain rfl : k = ws.length := by omega
      rw [List.take_length] at B7
      clear hc7 hf7
      obtain ⟨hc7, hf7⟩ := bx1 B7
      rw [HALL.out] at hc7
      go_wp2_with fail
      exact bodyPost_ret (v := .tuple #[.slice none 0 0, .int .i64 1]) (by simp [results, Try.results17, go_sem]) rfl ⟨rfl, HB.out⟩
set_option maxHeartbeats 4000000 in
set_option maxRecDepth 100000 in
theorem split_b1 (s : Int) (ws : List Int) (A : Option Addr) (c : Nat) (w : World) (h : s < 0) (hr1 : (Kd.int .i64).C w A ws.length ws) (hc1 : ws.length ≤ c) :
    Calls Try.prog 17 #[.int .i64 s, .slice A ws.length c] w fun e w' => e = .returned (.tuple #[.slice none 0 0, .int .i64 1]) ∧ Below w.heap.size w w' := by
  have d1 : decide (s < 0) = true := decide_eq_true (by omega)
  go_enter Try.func17, Try.ntmps17
  go_wp2_with fail
  exact bodyPost_ret (v := .tuple #[.slice none 0 0, .int .i64 1]) (by simp [results, Try.results17, go_sem]) rfl ⟨rfl, below_alloc (below_alloc (Below.refl _ w) _) _⟩
set_option maxHeartbeats 4000000 in
set_option maxRecDepth 100000 in
theorem split_b2 (s : Int) (ws : List Int) (A : Option Addr) (c : Nat) (w : World) (h : 1000000000 < s) (hr1 : (Kd.int .i64).C w A ws.length ws) (hc1 : ws.length ≤ c) :
    Calls Try.prog 17 #[.int .i64 s, .slice A ws.length c] w fun e w' => e = .returned (.tuple #[.slice none 0 0, .int .i64 1]) ∧ Below w.heap.size w w' := by
  have d1 : decide (s < 0) = false := decide_eq_false (by omega)
  have d2 : decide (s > 1000000000) = true := decide_eq_true (by omega)
  go_enter Try.func17, Try.ntmps17
  go_wp2_with fail
  exact bodyPost_ret (v := .tuple #[.slice none 0 0, .int .i64 1]) (by simp [results, Try.results17, go_sem]) rfl ⟨rfl, below_alloc (below_alloc (Below.refl _ w) _) _⟩
set_option maxHeartbeats 4000000 in
set_option maxRecDepth 100000 in
theorem split_b3 (s : Int) (ws : List Int) (A : Option Addr) (c : Nat) (w : World) (hs : 0 ≤ s ∧ s ≤ 1000000000) (h : ws.length < 1) (hr1 : (Kd.int .i64).C w A ws.length ws) (hc1 : ws.length ≤ c) :
    Calls Try.prog 17 #[.int .i64 s, .slice A ws.length c] w fun e w' => e = .returned (.tuple #[.slice none 0 0, .int .i64 1]) ∧ Below w.heap.size w w' := by
  have d1 : decide (s < 0) = false := decide_eq_false (by omega)
  have d2 : decide (s > 1000000000) = false := decide_eq_false (by omega)
  have d3 : decide ((ws.length : Int) < 1) = true := decide_eq_true (by omega)
  go_enter Try.func17, Try.ntmps17
  go_wp2_with fail
  exact bodyPost_ret (v := .tuple #[.slice none 0 0, .int .i64 1]) (by simp [results, Try.results17, go_sem]) rfl ⟨rfl, below_alloc (below_alloc (Below.refl _ w) _) _⟩
set_option maxHeartbeats 4000000 in
set_option maxRecDepth 100000 in
theorem split_b4 (s : Int) (ws : List Int) (A : Option Addr) (c : Nat) (w : World) (hs : 0 ≤ s ∧ s ≤ 1000000000) (h : 32 < ws.length) (hr1 : (Kd.int .i64).C w A ws.length ws) (hc1 : ws.length ≤ c) :
    Calls Try.prog 17 #[.int .i64 s, .slice A ws.length c] w fun e w' => e = .returned (.tuple #[.slice none 0 0, .int .i64 1]) ∧ Below w.heap.size w w' := by
  have d1 : decide (s < 0) = false := decide_eq_false (by omega)
  have d2 : decide (s > 1000000000) = false := decide_eq_false (by omega)
  have d3 : decide ((ws.length : Int) < 1) = false := decide_eq_false (by omega)
  have d4 : decide ((ws.length : Int) > 32) = true := decide_eq_true (by omega)
  go_enter Try.func17, Try.ntmps17
  go_wp2_with fail
  exact bodyPost_ret (v := .tuple #[.slice none 0 0, .int .i64 1]) (by simp [results, Try.results17, go_sem]) rfl ⟨rfl, below_alloc (below_alloc (Below.refl _ w) _) _⟩
set_option maxHeartbeats 4000000 in
set_option maxRecDepth 100000 in
theorem split_b5 (s : Int) (ws : List Int) (A : Option Addr) (c : Nat) (w : World) (hs : 0 ≤ s ∧ s ≤ 1000000000) (hn : 1 ≤ ws.length) (h : ws.length ≤ 32) (hbad : ws.any badW = true) (hr1 : (Kd.int .i64).C w A ws.length ws) (hc1 : ws.length ≤ c) :
    Calls Try.prog 17 #[.int .i64 s, .slice A ws.length c] w fun e w' => e = .returned (.tuple #[.slice none 0 0, .int .i64 1]) ∧ Below w.heap.size w w' := by
  have d1 : decide (s < 0) = false := decide_eq_false (by omega)
  have d2 : decide (s > 1000000000) = false := decide_eq_false (by omega)
  have d3 : decide ((ws.length : Int) < 1) = false := decide_eq_false (by omega)
  have d4 : decide ((ws.length : Int) > 32) = false := decide_eq_false (by omega)
  have HBD := Aside0.mk hbad
  have HR := Aside0.mk hr1
  clear hbad hr1
  go_enter Try.func17, Try.ntmps17
  go_wp2_with fail
  refine (containsM_calls A c ws _ (Kd.C_below HR.out (below_alloc (below_alloc (Below.refl _ w) _) _)) (by omega)).mono ?_
  rintro e w' ⟨rfl, rfl⟩
  rw [HBD.out]
  go_wp2_with fail
  exact bodyPost_ret (v := .tuple #[.slice none 0 0, .int .i64 1]) (by simp [results, Try.results17, go_sem]) rfl ⟨rfl, below_alloc (below_alloc (Below.refl _ w) _) _⟩
def money_Split.f (a0 : Int) (l1 : List Int) : Option (List Int × Int) := if okSum a0 l1 = true then (if allM l1 = 0 then some ([], 1) else if l1.length < 20 then some (splitM a0 l1, 0) else none) else some ([], 1)
theorem money_Split.calls (a0 : Int) (A1 : Option Addr) (c1 : Nat) (l1 : List Int) (r1 : List Int) (r2 : Int) (w : World) (hr1 : Kd.C (Kd.int .i64) w A1 l1.length l1) (hc1 : l1.length ≤ c1) (h : money_Split.f a0 l1 = some (r1, r2)) :
    Calls Try.prog 17 #[.int .i64 a0, .slice A1 l1.length c1] w fun e w' => ∃ v0_ : Value, e = .returned (.tuple #[v0_, .int .i64 r2]) ∧ Kd.R (Kd.int .i64) 3 w' w.heap.size (fun _ => True) v0_ r1 ∧ Below w.heap.size w w' := by
  unfold money_Split.f at h
  have nil : ∀ (R : Prop), (Calls Try.prog 17 #[.int .i64 a0, .slice A1 l1.length c1] w fun e w' => e = .returned (.tuple #[.slice none 0 0, .int .i64 1]) ∧ Below w.heap.size w w') → (r1 = [] ∧ r2 = 1) → Calls Try.prog 17 #[.int .i64 a0, .slice A1 l1.length c1] w fun e w' => ∃ v0_ : Value, e = .returned (.tuple #[v0_, .int .i64 r2]) ∧ Kd.R (Kd.int .i64) 3 w' w.heap.size (fun _ => True) v0_ r1 ∧ Below w.heap.size w w' := by
    rintro _ hc ⟨rfl, rfl⟩
    exact hc.mono fun e w' ⟨he, hb⟩ => ⟨_, he, Kd.R_nil _ _ _ _ _, hb⟩
  by_cases c : okSum a0 l1 = true
  · rw [if_pos c] at h
    simp only [okSum, Bool.and_eq_true, decide_eq_true_eq, Bool.not_eq_true'] at c
    obtain ⟨⟨⟨⟨s0, s1⟩, n0⟩, n1⟩, hb⟩ := c
    by_cases z : allM l1 = 0
    · rw [if_pos z] at h
      simp only [Option.some.injEq, Prod.mk.injEq] at h
      exact nil True (split_zero a0 l1 A1 c1 w ⟨s0, s1⟩ n0 n1 hb z hr1 hc1) ⟨h.1.symm, h.2.symm⟩
    · rw [if_neg z] at h
      by_cases q : l1.length < 20
      · rw [if_pos q] at h
        simp only [Option.some.injEq, Prod.mk.injEq] at h
        obtain ⟨rfl, rfl⟩ := h
        exact split_good a0 l1 A1 c1 w ⟨s0, s1⟩ n0 q hb z hr1 hc1
      · rw [if_neg q] at h
        exact absurd h (by simp)
  · rw [if_neg c] at h
    simp only [Option.some.injEq, Prod.mk.injEq] at h
    refine nil True ?_ ⟨h.1.symm, h.2.symm⟩
    simp only [okSum, Bool.and_eq_true, decide_eq_true_eq, Bool.not_eq_true', not_and] at c
    by_cases c1' : a0 < 0
    · exact split_b1 a0 l1 A1 c1 w c1' hr1 hc1
    · by_cases c2 : 1000000000 < a0
      · exact split_b2 a0 l1 A1 c1 w c2 hr1 hc1
      · have hs : 0 ≤ a0 ∧ a0 ≤ 1000000000 := ⟨by omega, by omega⟩
        by_cases c3 : l1.length < 1
        · exact split_b3 a0 l1 A1 c1 w hs c3 hr1 hc1
        · by_cases c4 : 32 < l1.length
          · exact split_b4 a0 l1 A1 c1 w hs c4 hr1 hc1
          · refine split_b5 a0 l1 A1 c1 w hs (by omega) (by omega) ?_ hr1 hc1
            have := c ⟨⟨⟨hs.1, hs.2⟩, by omega⟩, by omega⟩
            simpa using this
end Go.Proofs.Ytilmdlaacpefiaa.Q
