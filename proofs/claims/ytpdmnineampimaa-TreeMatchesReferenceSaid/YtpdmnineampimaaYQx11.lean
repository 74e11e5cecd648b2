import Derived.Test.YtpdmnineampimaaYe
import Derived.Test.YtpdmnineampimaaYQx24
set_option linter.unusedVariables false
set_option linter.unusedSimpArgs false
namespace Go.Proofs.Ytpdmnineampimaa.Q
open Go.RowKit Go.Proofs.YtpdmnineampimaaW.PrintWords Go.Proofs.YtpdmnineampimaaW.PrintLast Go.Proofs.YtpdmnineampimaaW.PrintMore
attribute [local go_sem] max2_int min2_int max_two min_two max_three min_three max_four min_four
attribute [local go_sem] Oper.semAt_some
def itUp (l0 : List S48) (at_ : Int) : Nat → Int
  | 0 => at_
  | i + 1 => itUp l0 (rd_T48 l0 at_).f1 i
theorem itUp_succ (l0 : List S48) : ∀ (i : Nat) (at_ : Int), itUp l0 at_ (i + 1) = (rd_T48 l0 (itUp l0 at_ i)).f1
  | 0, at_ => rfl
  | i + 1, at_ => itUp_succ l0 i _
def UpFine (l0 : List S48) : Prop := ∀ i : Nat, i < l0.length → -1 ≤ (rd_T48 l0 i).f1 ∧ (rd_T48 l0 i).f1 < i
theorem UpFine.at {l0 : List S48} (h : UpFine l0) {a : Int} (h0 : 0 ≤ a) (h1 : a < l0.length) : -1 ≤ (rd_T48 l0 a).f1 ∧ (rd_T48 l0 a).f1 < a := by
  obtain ⟨n, rfl⟩ := Int.eq_ofNat_of_zero_le h0
  exact h n (by simpa using h1)
theorem itUp_bd {l0 : List S48} (hU : UpFine l0) : ∀ (i : Nat) (a : Int), -1 ≤ a → a < l0.length → (∀ j, j < i → 0 ≤ itUp l0 a j) → -1 ≤ itUp l0 a i ∧ itUp l0 a i < l0.length
  | 0, a, h0, h1, _ => ⟨h0, h1⟩
  | i + 1, a, h0, h1, h => by
    have ha : 0 ≤ a := h 0 (by omega)
    have := hU.at ha h1
    exact itUp_bd hU i _ this.1 (by omega) (fun j hj => h (j + 1) (by omega))
theorem upL_get {l0 : List S48} : ∀ (K : Nat) (a : Int) (i : Nat) (h : i < (upL l0 K a).length), (upL l0 K a)[i] = itUp l0 a i ∧ 0 ≤ itUp l0 a i
  | 0, a, i, h => by simp [upL] at h
  | K + 1, a, i, h => by
    by_cases ha : a < 0
    · simp [upL, ha] at h
    · have e : upL l0 (K + 1) a = a :: upL l0 K (rd_T48 l0 a).f1 := by simp [upL, ha]
      cases i with
      | zero => exact ⟨by simp [e, itUp], by show 0 ≤ a; omega⟩
      | succ i =>
        simp only [e, List.getElem_cons_succ, itUp]
        exact upL_get K _ i (by simpa [e] using h)
theorem upL_end {l0 : List S48} (hU : UpFine l0) : ∀ (K : Nat) (a : Int), a < l0.length → a < K → itUp l0 a (upL l0 K a).length < 0
  | 0, a, _, h => by show a < 0; omega
  | K + 1, a, h1, h => by
    by_cases ha : a < 0
    · simp [upL, itUp, ha]
    · have e : upL l0 (K + 1) a = a :: upL l0 K (rd_T48 l0 a).f1 := by simp [upL, ha]
      rw [e, List.length_cons, itUp]
      have := hU.at (a := a) (by omega) h1
      exact upL_end hU K _ (by omega) (by omega)
theorem upL_len (l0 : List S48) : ∀ (K : Nat) (a : Int), (upL l0 K a).length ≤ K
  | 0, a => by simp [upL]
  | K + 1, a => by
    by_cases ha : a < 0
    · simp [upL, ha]
    · have := upL_len l0 K (rd_T48 l0 a).f1
      simp only [upL, ha, if_false, List.length_cons]; omega
theorem upward_calls (A0 A1 A2 A3 A4 : Option Addr) (c0 c1 c2 c3 c4 n0 n1 n2 n3 n4 : Nat) (a : Int) (w : World) :
    Calls Try.prog 29 #[.agg #[.slice A0 n0 c0, .slice A1 n1 c1, .slice A2 n2 c2, .slice A3 n3 c3, .slice A4 n4 c4], .int .i64 a] w fun e w' =>
      e = .returned (.func (.func 45) #[] #[.pointer (some ⟨w.heap.size + 1, 0, none⟩), .pointer (some ⟨w.heap.size, 0, none⟩)]) ∧
      w' = (w.alloc (.cells #[.slice A0 n0 c0, .slice A1 n1 c1, .slice A2 n2 c2, .slice A3 n3 c3, .slice A4 n4 c4] 28)).alloc (.cells #[.int .i64 a] 3) := by
  have hmf : ∀ (fn : Fn) (first cap : Array Value) (w : World), (Instr.makeFunc fn first cap).run Try.prog w = .ok (.func fn first cap) w := fun _ _ _ _ => rfl
  go_enter Try.func29, Try.ntmps29
  go_wp2
  go_ret
  exact ⟨rfl, rfl⟩
set_option maxHeartbeats 1000000 in
theorem upward_iter (A0 A1 A2 A3 A4 : Option Addr) (c0 c1 c2 c3 c4 n1 n2 n3 n4 : Nat) (l0 : List S48) (a0 : Int) (w : World) (bs bf N : Nat) (hbs : bs < w.heap.size) (hbf : bf < w.heap.size)
    (hs : w.heap[bs]? = some (.cells #[.slice A0 l0.length c0, .slice A1 n1 c1, .slice A2 n2 c2, .slice A3 n3 c3, .slice A4 n4 c4] 28 (0, 0))) (hf : w.heap[bf]? = some (.cells #[.int .i64 a0] 3 (0, 0)))
    (hN : N ≤ w.heap.size) (hA : ∀ ad, A0 = some ad → 0 < l0.length → ad.block < N) (hC : Kd.C k48 w A0 l0.length l0) (hU : UpFine l0) (h16 : l0.length ≤ 16) (ha0 : -1 ≤ a0) (ha1 : a0 < l0.length) :
    IterC Try.prog 45 #[.pointer (some ⟨bf, 0, none⟩), .pointer (some ⟨bs, 0, none⟩)] (fun x : Int => #[.int .i64 x]) (upL l0 17 a0) (fun _ => False) (fun k => k < N ∨ k = bs ∨ k = bf) w := by
  intro ly J Jx W hW hJ hJx hY h0
  refine callsIn_of_wp Try.func45 rfl trivial ?_ rfl
  simp only [Try.ntmps45, List.size_toArray, List.length_cons, List.length_nil, Nat.reduceAdd, Nat.reduceSub, Array.replicate_succ, Array.replicate_zero, List.push_toArray, List.append_toArray, List.nil_append, List.cons_append]
  have hs0 := (hW.block _ hbs (fun h => h)).trans hs
  have hf0 := (hW.block _ hbf (fun h => h)).trans hf
  have cf := blk_cell hf0 0
  simp only [List.getElem?_toArray, List.getElem?_cons_zero] at cf
  gi_wp2
  gi_loopw [4] (fun a wr => ∃ i : Nat, i ≤ (upL l0 17 a0).length ∧ a = .int .i64 (itUp l0 a0 i) ∧ J i wr ∧ wr.heap[bs]? = some (.cells #[.slice A0 l0.length c0, .slice A1 n1 c1, .slice A2 n2 c2, .slice A3 n3 c3, .slice A4 n4 c4] 28 (0, 0)) ∧ (∀ j, j < N → wr.heap[j]? = w.heap[j]?)) (fun a wr => (intOf a + 1).toNat)
  case atStart => exact ⟨0, Nat.zero_le _, rfl, h0, hs0, fun j hj => hW.block j (by omega) (fun h => h)⟩
  case round =>
    obtain ⟨i, hi, rfl, hJi, hsi, hold⟩ := hrel
    have hnn : ∀ j, j < i → 0 ≤ itUp l0 a0 j := fun j hj => (upL_get 17 a0 j (by omega)).2
    obtain ⟨hb0, hb1⟩ := itUp_bd hU i a0 ha0 ha1 hnn
    by_cases hlt : i < (upL l0 17 a0).length
    · obtain ⟨hg, hge⟩ := upL_get 17 a0 i hlt
      have hsucc := itUp_succ l0 i a0
      have hup := hU.at hge hb1
      obtain ⟨ad, hAd, q0, q1, q2, q3, q4, q5, q6, q7, q8, q9, q10⟩ := at_T48 hC (itUp l0 a0 i) hge hb1
      clear q0 q2 q3 q4 q5 q6 q7 q8 q9 q10
      have hag := hA ad hAd (by omega)
      subst hAd
      obtain ⟨fn, tmps, assign, body, hy, hR⟩ := hY i hlt wr hJi
      rw [hg] at hy
      have HS := Lib.hid hsucc
      have HR := Lib.hid hR
      have HG := Lib.hid hg
      have HJ := Lib.hid hJi
      have hbw : bs < wr.heap.size := (Array.getElem?_eq_some_iff.1 hsi).1
      clear hsucc hR hg hJi hnn
      generalize itUp l0 a0 i = a at *
      have hdec : decide (a ≥ 0) = true := decide_eq_true hge
      gi_wp2
      refine ⟨rfl, HR.out.mono ?_⟩
      rintro e W' (⟨rfl, hJ', hk'⟩ | ⟨rfl, hJx'⟩)
      · have hs' := (hk'.block _ hbw (fun h => h (.inr (.inl rfl)))).trans hsi
        have hold' : ∀ j, j < N → W'.heap[j]? = w.heap[j]? := fun j hj => by
          by_cases hjw : j < wr.heap.size
          · exact (hk'.block _ hjw (fun h => h (.inl hj))).trans (hold j hj)
          · exfalso
            have h1 := hold j hj
            rw [Array.getElem?_eq_none (by omega)] at h1
            have h2 : j < w.heap.size := by omega
            rw [Array.getElem?_eq_getElem h2] at h1
            cases h1
        have c0' := blk_cell hs' 0
        simp only [List.getElem?_toArray, List.getElem?_cons_zero] at c0'
        have q1' : W'.cell? ⟨(ad.add (a.toNat * 11)).block, (ad.add (a.toNat * 11)).off + 1, none⟩ = some (.int .i64 (rd_T48 l0 a).f1) := by
          refine (World.cell?_of_block (hold' _ ?_)).trans q1
          have e : (ad.add (a.toNat * 11)).block = ad.block := by unfold Addr.add; split <;> rfl
          show (ad.add (a.toNat * 11)).block < N
          rw [e]; exact hag
        gi_wp2
        go_roundw
        case rel => exact ⟨i + 1, by omega, by rw [HS.out], hJ', hs', hold'⟩
        case measure => simp [intOf]; omega
      · gi_wp2
        go_end0
        exact ⟨⟨_, rfl⟩, .inr ⟨i + 1, by omega, hJx'⟩⟩
    · obtain rfl : i = (upL l0 17 a0).length := by omega
      have hneg := upL_end hU 17 a0 ha1 (by omega)
      generalize itUp l0 a0 (upL l0 17 a0).length = a at *
      have hdec : decide (a ≥ 0) = false := decide_eq_false (by omega)
      gi_wp2
      refine ⟨(fun f hf => by cases hf), ?_⟩
      rename_i hKK _ _ _ _
      refine hKK _ _ ?_
      clear hKK
      gi_wp2
      go_end0
      exact ⟨⟨_, rfl⟩, .inl hJi⟩
theorem IterC.later {α : Type} {P : Program} {gf : Nat} {lb : Array Value} {encs : α → Array Value} {xs : List α} {T R : Nat → Prop} {w W0 : World} (h : IterC P gf lb encs xs T R w) (ht : Turns (fun _ => False) w W0) : IterC P gf lb encs xs T R W0 :=
  fun l J Jx W hW hJ hJx hY h0 => h l J Jx W (ht.trans hW)
    (fun i A B hJA hAB => hJ i A B hJA (hAB.mono (fun k hk => ⟨hk.1, Nat.lt_of_lt_of_le hk.2 ht.size⟩)))
    (fun i A B hJA hAB => hJx i A B hJA (hAB.mono (fun k hk => ⟨hk.1, Nat.lt_of_lt_of_le hk.2 ht.size⟩))) hY h0
structure FineS (l0 : List S48) (l1 : List S62) (l2 : List S84) (l3 : List S42) (l4 : List S87) : Prop where
  n0 : 1 ≤ l0.length ∧ l0.length ≤ 16
  n1 : l1.length ≤ 8
  n2 : l2.length ≤ 32
  n3 : l3.length ≤ 16
  n4 : l4.length ≤ 24
  cond : ∀ i : Nat, i < l0.length → condB (rd_T48 l0 i) i = true
  chg : ∀ i : Nat, i < l3.length → chgB l0.length l1.length (rd_T42 l3 i) = true
theorem andTo_iff (b : Bool) (p : Nat → Bool) : ∀ n, andTo b p n = true ↔ b = true ∧ ∀ i, i < n → p i = true
  | 0 => by simp [andTo]
  | n + 1 => by
    simp only [andTo, Bool.and_eq_true, andTo_iff b p n]
    constructor
    · rintro ⟨⟨h1, h2⟩, h3⟩
      refine ⟨h1, fun i hi => ?_⟩
      by_cases e : i = n
      · subst e; exact h3
      · exact h2 i (by omega)
    · rintro ⟨h1, h2⟩
      exact ⟨⟨h1, fun i hi => h2 i (by omega)⟩, h2 n (by omega)⟩
theorem valid_fine {l0 : List S48} {l1 : List S62} {l2 : List S84} {l3 : List S42} {l4 : List S87} (h : validB l0 l1 l2 l3 l4 = true) : FineS l0 l1 l2 l3 l4 := by
  unfold validB at h
  simp only [Bool.and_eq_true, andTo_iff, decide_eq_true_eq, ins_iff] at h
  obtain ⟨⟨⟨⟨⟨h0, h1⟩, h2⟩, h3⟩, h4⟩, ⟨⟨⟨⟨_, h5⟩, _⟩, h6⟩, _⟩⟩ := h
  exact ⟨by omega, h1, h2, h3, h4, h5, h6⟩
theorem FineS.up {l0 : List S48} {l1 : List S62} {l2 : List S84} {l3 : List S42} {l4 : List S87} (h : FineS l0 l1 l2 l3 l4) : UpFine l0 := fun i hi => by
  have := h.cond i hi
  unfold condB at this
  simp only [Bool.and_eq_true, Bool.or_eq_true, decide_eq_true_eq, ins_iff] at this
  omega
theorem FineS.at_ {l0 : List S48} {l1 : List S62} {l2 : List S84} {l3 : List S42} {l4 : List S87} (h : FineS l0 l1 l2 l3 l4) {a : Int} (h0 : 0 ≤ a) (h1 : a < l3.length) : 0 ≤ (rd_T42 l3 a).f1 ∧ (rd_T42 l3 a).f1 < l0.length := by
  obtain ⟨n, rfl⟩ := Int.eq_ofNat_of_zero_le h0
  have := h.chg n (by omega)
  unfold chgB at this
  simp only [Bool.and_eq_true, Bool.or_eq_true, decide_eq_true_eq, ins_iff] at this
  omega
theorem site_Valid.some {l0 : List S48} {l1 : List S62} {l2 : List S84} {l3 : List S42} {l4 : List S87} {r : Bool} (h : site_Valid.f l0 l1 l2 l3 l4 = some r) : validB l0 l1 l2 l3 l4 = r := by
  unfold site_Valid.f at h
  split at h
  · exact Option.some.inj h
  · cases h
theorem blockC {w : World} {A : Option Addr} {l : List S48} (h : Kd.C k48 w A l.length l) : ∀ ad, A = some ad → 0 < l.length → ad.block < w.heap.size := fun ad e hl => by
  obtain ⟨ad', e', q⟩ := at_T48 h 0 (by omega) (by omega)
  rw [e] at e'; cases e'
  have := cell_lt q.1
  have eb : ∀ n, (ad.add n).block = ad.block := fun n => by unfold Addr.add; split <;> rfl
  rwa [eb] at this
theorem blockG {w : World} {A : Option Addr} {l : List S42} (h : Kd.C k42 w A l.length l) : ∀ ad, A = some ad → 0 < l.length → ad.block < w.heap.size := fun ad e hl => by
  obtain ⟨ad', e', q⟩ := at_T42 h 0 (by omega) (by omega)
  rw [e] at e'; cases e'
  have := cell_lt q.1
  have eb : ∀ n, (ad.add n).block = ad.block := fun n => by unfold Addr.add; split <;> rfl
  rwa [eb] at this
end Go.Proofs.Ytpdmnineampimaa.Q
