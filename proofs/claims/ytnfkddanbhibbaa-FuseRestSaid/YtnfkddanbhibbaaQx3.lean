-- Written by a program of this session (wip/tools/mk.py), through the kit's print program.
import Derived.Test.YtnfkddanbhibbaaQx0
namespace Go.Proofs.Ytnfkddanbhibbaa.Q
open Go.RowKit Go.Proofs.YtnfkddanbhibbaaW.PrintWords Go.Proofs.YtnfkddanbhibbaaW.PrintLast Go.Proofs.YtnfkddanbhibbaaW.PrintMore
attribute [local go_sem] max2_int min2_int max_two min_two max_three min_three max_four min_four   -- for this text's walks alone
set_option linter.unusedVariables false
set_option linter.unusedSimpArgs false

-- EXTRA
-- IMPORT Derived.RangeFuncNested
-- IMPORT Derived.RangeFuncBound
-- IMPORT Derived.RangeFuncCalls
-- IMPORT Derived.RangeFuncLeaves
-- IMPORT Derived.Shelf.Abstract
-- IMPORT Derived.Shelf.RegionOpen
-- IMPORT Derived.OwnWalkIn
-- IMPORT Derived.TacticsInMore
-- IMPORT Derived.LoopNIn
-- IMPORT Derived.LoopIn
/-! ### a range over a function whose iterator keeps state of its own: one law -/
/-- Whatever lay outside T lies as it lay. -/
structure Turns (T : Nat → Prop) (W W' : World) : Prop where
  os : W'.os = W.os
  tape : W'.tape = W.tape
  output : W'.output = W.output
  size : W.heap.size ≤ W'.heap.size
  block : ∀ k, k < W.heap.size → ¬ T k → W'.heap[k]? = W.heap[k]?
theorem Turns.refl (T : Nat → Prop) (W : World) : Turns T W W := ⟨rfl, rfl, rfl, Nat.le_refl _, fun _ _ _ => rfl⟩
theorem Turns.trans {T : Nat → Prop} {A B C : World} (h : Turns T A B) (k : Turns T B C) : Turns T A C :=
  ⟨k.os.trans h.os, k.tape.trans h.tape, k.output.trans h.output, Nat.le_trans h.size k.size, fun i hi hn => (k.block i (Nat.lt_of_lt_of_le hi h.size) hn).trans (h.block i hi hn)⟩
theorem Turns.mono {T T' : Nat → Prop} {A B : World} (h : Turns T A B) (hT : ∀ k, T k → T' k) : Turns T' A B :=
  ⟨h.os, h.tape, h.output, h.size, fun i hi hn => h.block i hi (fun ht => hn (hT i ht))⟩
theorem Turns.alloc (T : Nat → Prop) (W : World) (o : Obj) : Turns T W (W.alloc o) := ⟨rfl, rfl, rfl, by simp, fun k hk _ => Below.heap_alloc _ _ _ hk⟩
theorem Turns.drew (T : Nat → Prop) (W : World) : Turns T W W.drew := ⟨rfl, rfl, rfl, Nat.le_refl _, fun _ _ _ => rfl⟩
theorem Turns.putObj (T : Nat → Prop) (W : World) (l : Nat) (o : Obj) (hl : T l) : Turns T W (W.putObj l o) :=
  ⟨rfl, rfl, rfl, by simp, fun k _ hn => World.putObj_heap_other (fun e => hn (e ▸ hl))⟩
theorem Turns.setCell (T : Nat → Prop) (W : World) (a : Addr) (v : Value) (hl : T a.block) : Turns T W (W.setCell a v) :=
  ⟨rfl, rfl, rfl, by simp [World.setCell], fun k _ hn => Below.heap_setCell _ _ _ _ (fun e => hn (e ▸ hl))⟩
theorem Turns.of_below {W W' : World} (T : Nat → Prop) (h : Below W.heap.size W W') : Turns T W W' := ⟨h.os, h.tape, h.output, h.size, fun k hk _ => h.block k hk⟩
/-- what turned lies from B on -/
theorem Turns.below {T : Nat → Prop} {B : Nat} {W0 W W' : World} (h : Turns T W W') (hb : Below B W0 W) (hB : B ≤ W.heap.size) (hT : ∀ k, T k → B ≤ k) : Below B W0 W' :=
  hb.trans ⟨h.os, h.tape, h.output, h.size, fun k hk => h.block k (by omega) (fun ht => by have := hT k ht; omega)⟩
/-- The contract of an iterator over xs that turns the blocks of T alone between two rounds, where each round keeps those of R. -/
def IterC {α : Type} (P : Program) (gf : Nat) (lb : Array Value) (encs : α → Array Value) (xs : List α) (T R : Nat → Prop) (w : World) : Prop :=
  ∀ (l : Nat) (J Jx : Nat → World → Prop) (W : World), Turns (fun _ => False) w W →
    (∀ i W W', J i W → Turns (fun k => T k ∧ k < w.heap.size) W W' → J i W') → (∀ i W W', Jx i W → Turns (fun k => T k ∧ k < w.heap.size) W W' → Jx i W') →
    (∀ i (hi : i < xs.length) W1, J i W1 → YieldAt Fence.wide 0 P l (encs xs[i]) W1 fun e W' =>
      (e = .returned (.bool true) ∧ J (i + 1) W' ∧ Turns (fun k => ¬ R k) W1 W') ∨ (e = .returned (.bool false) ∧ Jx (i + 1) W')) →
    J 0 W →
    CallsIn Fence.wide 0 P gf (#[.func (.yield l) #[] #[]] ++ lb) W fun e W' => (∃ v, e = .returned v) ∧ (J xs.length W' ∨ ∃ i, i ≤ xs.length ∧ Jx i W')
/-- How a round may be left. -/
def rgPost (R : Nat → Prop) (D : Nat) (I : Nat → World → Prop) (Ix : Code → Nat → World → Prop) (i : Nat) (W : World) : Exit → Act → World → Prop
  | .normal, _, W' => Turns (fun k => ¬ (R k ∨ k = D ∨ k = D + 1)) W W' ∧ I (i + 1) W'
  | .ret, _, W' => Turns (fun k => ¬ (k = D ∨ k = D + 1)) W W' ∧ Ix .ret (i + 1) W'
  | .exit id, _, W' => Turns (fun k => ¬ (k = D ∨ k = D + 1)) W W' ∧ Ix (.exit id) (i + 1) W'
  | .goto t, _, W' => Turns (fun k => ¬ (k = D ∨ k = D + 1)) W W' ∧ Ix (.goto t) (i + 1) W'
  | .panic _, _, _ => False
  | .outgrown, _, _ => False
theorem wp_rangeFunc_iter {P : Program} {α : Type} {g : Operand} {ps : Array Tmp} {assign body : Code} {Q : Exit → Act → World → Prop} {a : Act} {w : World}
    {gf : Nat} {lb : Array Value} (hg : a.eval g = .func (.func gf) #[] lb) (eg : ∀ args w, (callFunc gf args).run P w = .ok (.enter gf args) w)
    {encs : α → Array Value} {xs : List α} {T R : Nat → Prop} (hR : ∀ k, R k → k < w.heap.size) (hseq : IterC P gf lb encs xs T R w) (hps : ∀ x, (encs x).size = ps.size)
    (I : Nat → World → Prop) (Ix : Code → Nat → World → Prop)
    (hI : ∀ i W W', I i W → Turns (fun k => (T k ∧ k < w.heap.size) ∨ k = w.heap.size ∨ k = w.heap.size + 1) W W' → I i W')
    (hIx : ∀ c i W W', Ix c i W → Turns (fun k => (T k ∧ k < w.heap.size) ∨ k = w.heap.size ∨ k = w.heap.size + 1) W W' → Ix c i W') (h0 : I 0 w)
    (A : Nat → Act → World → Prop) (hA : ∀ i a1 W W', A i a1 W → Turns (fun k => k = w.heap.size + 1) W W' → A i a1 W')
    (hassign : ∀ (l i : Nat) (hi : i < xs.length) (W : World), I i W → w.heap.size + 1 < W.heap.size →
      ∀ K : Act → World → Prop, (∀ a1 W1, A i a1 W1 → Turns (fun k => ¬ (R k ∨ k = w.heap.size ∨ k = w.heap.size + 1)) W W1 → K a1 W1) → assign.wpIn (Fence.wide.inRound l) 0 P (Exit.then K (fun _ _ _ => False)) { tmps := (ps.zip (encs xs[i])).foldl (fun t (p, v) => t.setIfInBounds p v) a.tmps, defers := [] } W)
    (hbody : ∀ (l i : Nat) (_ : i < xs.length) (a1 : Act) (W : World), A i a1 W → w.heap.size + 1 < W.heap.size → body.wpIn (Fence.wide.inRound l) 0 P (rgPost R w.heap.size I Ix i W) a1 W)
    (hdone : ∀ (W : World), I xs.length W → W.heap[w.heap.size]? = some (.deferred (some [])) → Q .normal { a with defers := { target := .collected w.heap.size, args := #[] } :: a.defers } W)
    (hstop : ∀ (c : Code) (i : Nat) (W : World), i ≤ xs.length → Ix c i W → W.heap[w.heap.size]? = some (.deferred (some [])) → c.wpIn Fence.wide 0 P Q { a with defers := { target := .collected w.heap.size, args := #[] } :: a.defers } W) :
    (Code.rangeFunc g ps assign body).wpIn Fence.wide 0 P Q a w := by
  refine wpIn_rangeFunc ?_
  intro fn hfn
  obtain ⟨rec, hrec⟩ : ∃ rec : LoopState → Option Code → Loop, rec = fun st pe => { state := st, pending := pe, fn, tmps := a.tmps, params := ps, assign, body, defers := w.heap.size } := ⟨_, rfl⟩
  obtain ⟨W1, hW1⟩ : ∃ W1, (w.alloc (.deferred (some []))).alloc (.loop (rec .ready none)) = W1 := ⟨_, rfl⟩
  have hL1 : W1.heap[w.heap.size + 1]? = some (.loop (rec .ready none)) := by
    rw [← hW1]; have := World.alloc_heap_new (w.alloc (.deferred (some []))) (.loop (rec .ready none)); rwa [World.size_alloc] at this
  have hK1 : W1.heap[w.heap.size]? = some (.deferred (some [])) := by
    rw [← hW1]; exact (Below.heap_alloc _ _ _ (by simp)).trans (World.alloc_heap_new w _)
  have hT0 : ∀ T' : Nat → Prop, Turns T' w W1 := fun T' => by rw [← hW1]; exact (Turns.alloc _ _ _).trans (Turns.alloc _ _ _)
  have hI1 : I 0 W1 := hI _ _ _ h0 (hT0 _)
  -- what the law keeps of its own two blocks
  have keepB : ∀ {A B : World} {o : Obj} {k : Nat}, Turns (fun k => T k ∧ k < w.heap.size) A B → w.heap.size ≤ k → A.heap[k]? = some o → B.heap[k]? = some o := fun ht hk ho =>
    (ht.block _ (Array.getElem?_eq_some_iff.1 ho).1 (fun h => by have := h.2; omega)).trans ho
  refine ⟨w.heap.size + 1, [{ target := .collected w.heap.size, args := #[] }], W1, { target := .fn (.func gf) lb, args := #[.func (.yield (w.heap.size + 1)) #[] #[]] }, W1, gf,
    #[.func (.yield (w.heap.size + 1)) #[] #[]] ++ lb, W1, ?_, ?_, ?_, ?_, (fun h => by cases h), ?_⟩
  · rw [← hW1, hrec]; exact run_enterLoop_outer _ _ _ _ _
  · simp only [resolve, hg]
    simp [go_sem]
  · intro f' _; trivial
  · simp [invoke, go_sem, eg]
  · refine (hseq (w.heap.size + 1)
      (fun i W => I i W ∧ W.heap[w.heap.size + 1]? = some (.loop (rec .ready none)) ∧ W.heap[w.heap.size]? = some (.deferred (some [])))
      (fun i W => ∃ c, Ix c i W ∧ W.heap[w.heap.size + 1]? = some (.loop (rec .done (some c))) ∧ W.heap[w.heap.size]? = some (.deferred (some [])))
      W1 (hT0 _)
      (fun i A B hs ht => ⟨hI i A B hs.1 (ht.mono (fun k h => .inl h)), keepB ht (by omega) hs.2.1, keepB ht (Nat.le_refl _) hs.2.2⟩)
      (fun i A B hs ht => by
        obtain ⟨c, hc, hl, hk⟩ := hs
        exact ⟨c, hIx c i A B hc (ht.mono (fun k h => .inl h)), keepB ht (by omega) hl, keepB ht (Nat.le_refl _) hk⟩)
      ?_ ⟨hI1, hL1, hK1⟩).mono ?_
    · -- one round
      rintro i hi W ⟨hii, hl, hk⟩
      have hlt : w.heap.size + 1 < W.heap.size := (Array.getElem?_eq_some_iff.1 hl).1
      have hy := run_yield (P := P) (args := encs xs[i]) hl (by rw [hrec]; exact hps _)
      rw [hrec] at hy
      refine ⟨fn, _, assign, body, hy, roundIn_of_wpIn hfn (wpIn_mono (hassign _ i hi W hii hlt (fun a1 W1 => A i a1 W1 ∧ Turns (fun k => ¬ (R k ∨ k = w.heap.size ∨ k = w.heap.size + 1)) W W1) (fun _ _ h1 h2 => ⟨h1, h2⟩)) ?_)⟩
      rintro e a1 W2 hp
      cases e with
      | normal =>
        obtain ⟨hAA, ht2⟩ := hp
        have kp : ∀ {A B : World} {o : Obj} {k : Nat}, Turns (fun k => ¬ (R k ∨ k = w.heap.size ∨ k = w.heap.size + 1)) A B → (k = w.heap.size ∨ k = w.heap.size + 1) → A.heap[k]? = some o → B.heap[k]? = some o := fun ht hk ho =>
          (ht.block _ (Array.getElem?_eq_some_iff.1 ho).1 (fun h => h (.inr hk))).trans ho
        have hl2 := kp ht2 (.inr rfl) hl
        have hk2 := kp ht2 (.inl rfl) hk
        have hlt2 : w.heap.size + 1 < W2.heap.size := (Array.getElem?_eq_some_iff.1 hl2).1
        refine ⟨_, run_beginRound hl2 (by rw [hrec]), ?_⟩
        obtain ⟨W3, hW3⟩ : ∃ W3, W2.putObj (w.heap.size + 1) (.loop { rec .ready none with state := .busy }) = W3 := ⟨_, rfl⟩
        have hl3 : W3.heap[w.heap.size + 1]? = some (.loop { rec .ready none with state := .busy }) := by rw [← hW3]; exact World.putObj_heap_same hlt2
        have hk3 : W3.heap[w.heap.size]? = some (.deferred (some [])) := by rw [← hW3]; exact (World.putObj_heap_other (by omega)).trans hk2
        have ht3 : Turns (fun k => k = w.heap.size + 1) W2 W3 := by rw [← hW3]; exact Turns.putObj _ _ _ _ rfl
        have hW3' : W2.putObj (w.heap.size + 1) (.loop { rec .ready none with state := .busy }) = W3 := hW3
        rw [hW3']
        have hlt3 : w.heap.size + 1 < W3.heap.size := (Array.getElem?_eq_some_iff.1 hl3).1
        refine wpIn_mono (hbody _ i hi a1 W3 (hA _ _ _ _ hAA ht3) hlt3) ?_
        have fin : ∀ (jump : Option Code) (W4 : World), W4.heap[w.heap.size + 1]? = some (.loop { rec .ready none with state := .busy }) → W4.heap[w.heap.size]? = some (.deferred (some [])) →
            (Instr.endRound (w.heap.size + 1) jump).run P W4 = .ok (.bool jump.isNone) (W4.putObj (w.heap.size + 1) (.loop (rec (if jump.isNone then .ready else .done) jump))) ∧
            (W4.putObj (w.heap.size + 1) (.loop (rec (if jump.isNone then .ready else .done) jump))).heap[w.heap.size + 1]? = some (.loop (rec (if jump.isNone then .ready else .done) jump)) ∧
            (W4.putObj (w.heap.size + 1) (.loop (rec (if jump.isNone then .ready else .done) jump))).heap[w.heap.size]? = some (.deferred (some [])) := fun jump W4 hl4 hk4 => by
          have := run_endRound (P := P) jump hl4
          rw [hrec] at this ⊢
          exact ⟨this, World.putObj_heap_same (Array.getElem?_eq_some_iff.1 hl4).1, (World.putObj_heap_other (by omega)).trans hk4⟩
        have kq : ∀ {A B : World} {o : Obj} {k : Nat}, Turns (fun k => ¬ (k = w.heap.size ∨ k = w.heap.size + 1)) A B → (k = w.heap.size ∨ k = w.heap.size + 1) → A.heap[k]? = some o → B.heap[k]? = some o := fun ht hk ho =>
          (ht.block _ (Array.getElem?_eq_some_iff.1 ho).1 (fun h => h hk)).trans ho
        have hTl : ∀ (W4 : World) (o : Obj), Turns (fun k => (T k ∧ k < w.heap.size) ∨ k = w.heap.size ∨ k = w.heap.size + 1) W4 (W4.putObj (w.heap.size + 1) o) := fun W4 o => Turns.putObj _ _ _ _ (.inr (.inr rfl))
        rintro e a4 W4 hp
        cases e with
        | normal =>
          obtain ⟨ht4, hi4⟩ := hp
          obtain ⟨hr, hl5, hk5⟩ := fin none W4 (kp ht4 (.inr rfl) hl3) (kp ht4 (.inl rfl) hk3)
          refine ⟨_, _, hr, .inl ⟨rfl, ⟨hI _ _ _ hi4 (hTl _ _), hl5, hk5⟩, ?_⟩⟩
          have r1 : Turns (fun k => ¬ R k) W W2 := ht2.mono (fun k h h' => h (.inl h'))
          have r2 : Turns (fun k => ¬ R k) W2 W3 := ht3.mono (fun k h h' => by have := hR k h'; omega)
          have r3 : Turns (fun k => ¬ R k) W3 W4 := ht4.mono (fun k h h' => h (.inl h'))
          exact ((r1.trans r2).trans r3).trans (Turns.putObj _ _ _ _ (fun h' => by have := hR _ h'; omega))
        | ret =>
          obtain ⟨ht4, hi4⟩ := hp
          obtain ⟨hr, hl5, hk5⟩ := fin (some .ret) W4 (kq ht4 (.inr rfl) hl3) (kq ht4 (.inl rfl) hk3)
          exact ⟨_, _, hr, .inr ⟨rfl, .ret, hIx _ _ _ _ hi4 (hTl _ _), hl5, hk5⟩⟩
        | exit id =>
          obtain ⟨ht4, hi4⟩ := hp
          obtain ⟨hr, hl5, hk5⟩ := fin (some (.exit id)) W4 (kq ht4 (.inr rfl) hl3) (kq ht4 (.inl rfl) hk3)
          exact ⟨_, _, hr, .inr ⟨rfl, .exit id, hIx _ _ _ _ hi4 (hTl _ _), hl5, hk5⟩⟩
        | goto t =>
          obtain ⟨ht4, hi4⟩ := hp
          obtain ⟨hr, hl5, hk5⟩ := fin (some (.goto t)) W4 (kq ht4 (.inr rfl) hl3) (kq ht4 (.inl rfl) hk3)
          exact ⟨_, _, hr, .inr ⟨rfl, .goto t, hIx _ _ _ _ hi4 (hTl _ _), hl5, hk5⟩⟩
        | panic ch => exact hp.elim
        | outgrown => exact hp.elim
      | exit id => exact hp.elim
      | goto t => exact hp.elim
      | ret => exact hp.elim
      | panic ch => exact hp.elim
      | outgrown => exact hp.elim
    · -- behind the iterator
      have hTl : ∀ (W4 : World) (o : Obj), Turns (fun k => (T k ∧ k < w.heap.size) ∨ k = w.heap.size ∨ k = w.heap.size + 1) W4 (W4.putObj (w.heap.size + 1) o) := fun W4 o => Turns.putObj _ _ _ _ (.inr (.inr rfl))
      rintro e W2 ⟨⟨v, rfl⟩, (⟨hi, hl, hk⟩ | ⟨i, hle, c, hi, hl, hk⟩)⟩
      · exact ⟨none, _, by have := run_endLoop (P := P) hl (by rw [hrec]; simp); rw [hrec] at this; exact this, hdone _ (hI _ _ _ hi (hTl _ _)) ((World.putObj_heap_other (by omega)).trans hk)⟩
      · exact ⟨some c, _, by have := run_endLoop (P := P) hl (by rw [hrec]; simp); rw [hrec] at this; exact this, hstop c i _ hle (hIx c _ _ _ hi (hTl _ _)) ((World.putObj_heap_other (by omega)).trans hk)⟩

end Go.Proofs.Ytnfkddanbhibbaa.Q
