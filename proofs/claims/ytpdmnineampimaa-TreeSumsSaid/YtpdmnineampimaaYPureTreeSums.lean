/-
For every site and list of bytes: the load of each conductor is the sum of the currents of the chargers on it, on their phases, and of the loads of the conductors that lead from it.
-/
import Derived.Test.YtpdmnineampimaaYQx54
import Derived.Test.YtpdmnineampimaaYBvalid
import Derived.Test.YtpdmnineampimaaYBtree
import Derived.Test.YtpdmnineampimaaYBloads
namespace Go.Proofs.Ytpdmnineampimaa.Pure
open Go.RowKit Go.Proofs.Ytpdmnineampimaa.Q Go.Proofs.YtpdmnineampimaaW.PrintWords Go.Proofs.YtpdmnineampimaaW.PrintLast Go.Proofs.YtpdmnineampimaaW.PrintMore Go.Proofs.Ytpdmnineampimaa.Basevalid Go.Proofs.Ytpdmnineampimaa.Basetree Go.Proofs.Ytpdmnineampimaa.Baseloads

theorem alg1 (D X t : Int) (P Q B : Prop) [Decidable P] [Decidable Q] [Decidable B] (h : Q → P) : D + X + (if P ∧ B then t else 0) = D + (if Q ∧ B then t else 0) + (X + (if B then t else 0) * ((if P then 1 else 0) - (if Q then 1 else 0))) := by
  by_cases p : P <;> by_cases q : Q <;> by_cases b : B <;> first | exact absurd (h q) p | (simp [p, q, b] <;> omega)
theorem alg2 (S X t C : Int) (U I B : Prop) [Decidable U] [Decidable I] [Decidable B] : S + (if B then t else 0) * C + (if U then (X + if I ∧ B then t else 0) else 0) = S + (if U then X else 0) + (if B then t else 0) * (C + if U ∧ I then 1 else 0) := by
  by_cases u : U <;> by_cases i : I <;> by_cases b : B <;> simp [u, i, b, Int.mul_add] <;> omega
section
variable {l0 : List S48} {l1 : List S62} {l2 : List S84} {l3 : List S42} {l4 : List S87}
def bv (n : Int) (q : Nat) : Int := if bitOf n q = true then 1 else 0
theorem shr_val (n : Int) (h1 : 1 ≤ n) (h2 : n ≤ 7) : Go.bits .and .i64 (shr .i64 n 0) 1 = bv n 0 ∧ Go.bits .and .i64 (shr .i64 n 1) 1 = bv n 1 ∧ Go.bits .and .i64 (shr .i64 n 2) 1 = bv n 2 := by
  have : n = 1 ∨ n = 2 ∨ n = 3 ∨ n = 4 ∨ n = 5 ∨ n = 6 ∨ n = 7 := by omega
  rcases this with rfl | rfl | rfl | rfl | rfl | rfl | rfl <;> decide +kernel
theorem bv_one (n : Int) (q : Nat) : bv n q = 1 ↔ bitOf n q = true := by unfold bv; split <;> simp [*]
/-- what the chargers at a conductor draw -/
def dirL (l3 : List S42) (amps : List Int) (c : Int) (p : Nat) : Nat → Int
  | 0 => 0
  | i + 1 => dirL l3 amps c p i + (if (rd_T42 l3 (i : Int)).f1 = c ∧ bitOf (rd_T42 l3 (i : Int)).f2 p = true then rd amps i else 0)
/-- the loads of the conductors that lead from one -/
def chiL (l0 : List S48) (l3 : List S42) (amps : List Int) (c : Int) (p n : Nat) : Nat → Int
  | 0 => 0
  | j + 1 => chiL l0 l3 amps c p n j + (if (rd_T48 l0 (j : Int)).f1 = c then sumL l0 l3 amps (j : Int) p n else 0)
def cntC (l0 : List S48) (c : Int) (W : List Int) : Nat → Int
  | 0 => 0
  | j + 1 => cntC l0 c W j + (if (rd_T48 l0 (j : Int)).f1 = c ∧ (j : Int) ∈ W then 1 else 0)
theorem cnt_nil (c : Int) : ∀ m, cntC l0 c [] m = 0
  | 0 => rfl
  | m + 1 => by simp [cntC, cnt_nil c m]
theorem cnt_cons (c : Int) {a : Int} {W : List Int} (h0 : 0 ≤ a) (hn : ¬ a ∈ W) : ∀ m : Nat, cntC l0 c (a :: W) m = cntC l0 c W m + (if a < m ∧ (rd_T48 l0 a).f1 = c then 1 else 0)
  | 0 => by rw [if_neg (by omega)]; rfl
  | m + 1 => by
    simp only [cntC, cnt_cons c h0 hn m, List.mem_cons]
    by_cases e : (m : Int) = a
    · subst e
      rw [if_neg (show ¬ ((m : Int) < (m : Int) ∧ _) from fun h => by omega)]
      by_cases u : (rd_T48 l0 (m : Int)).f1 = c
      · rw [if_pos ⟨u, Or.inl rfl⟩, if_neg (show ¬ (_ ∧ _) from fun h => hn h.2), if_pos ⟨by omega, u⟩]
      · rw [if_neg (show ¬ (_ ∧ _) from fun h => u h.1), if_neg (show ¬ (_ ∧ _) from fun h => u h.1), if_neg (show ¬ (_ ∧ _) from fun h => u h.2)]; try omega
    · have e1 : (a < (m : Int) ∧ (rd_T48 l0 a).f1 = c) ↔ (a < ((m + 1 : Nat) : Int) ∧ (rd_T48 l0 a).f1 = c) := ⟨fun h => ⟨by omega, h.2⟩, fun h => ⟨by omega, h.2⟩⟩
      have e2 : ((rd_T48 l0 (m : Int)).f1 = c ∧ ((m : Int) = a ∨ (m : Int) ∈ W)) ↔ ((rd_T48 l0 (m : Int)).f1 = c ∧ (m : Int) ∈ W) := ⟨fun h => ⟨h.1, h.2.resolve_left e⟩, fun h => ⟨h.1, Or.inr h.2⟩⟩
      simp only [e1, e2]; omega
theorem up_le (F : FineS l0 l1 l2 l3 l4) : ∀ (K : Nat) (a : Int), a < l0.length → ∀ x ∈ upL l0 K a, 0 ≤ x ∧ x ≤ a
  | 0, _, _, x, hx => by simp [upL] at hx
  | K + 1, a, ha, x, hx => by
    unfold upL at hx
    by_cases n : a < 0
    · rw [if_pos n] at hx; simp at hx
    · rw [if_neg n] at hx
      rcases List.mem_cons.1 hx with rfl | h
      · omega
      · have u := F.up.at (by omega) ha
        have := up_le F K _ (by omega) x h
        omega
theorem cnt_way (F : FineS l0 l1 l2 l3 l4) (c : Int) (hc : 0 ≤ c) : ∀ (K : Nat) (a : Int), a < l0.length → a < K →
    cntC l0 c (upL l0 K a) l0.length = (if c ∈ upL l0 K a then 1 else 0) - (if a = c then 1 else 0)
  | 0, a, _, h => by
    have : ¬ a = c := by omega
    simp [upL, cnt_nil, this]
  | K + 1, a, ha, h => by
    unfold upL
    by_cases n : a < 0
    · have : ¬ a = c := by omega
      rw [if_pos n, cnt_nil]; simp [this]
    · have u := F.up.at (by omega) ha
      have ni : ¬ a ∈ upL l0 K (rd_T48 l0 a).f1 := fun hm => by have := up_le F K _ (by omega) a hm; omega
      have ih := cnt_way F c hc K (rd_T48 l0 a).f1 (by omega) (by omega)
      rw [if_neg n, cnt_cons c (by omega) ni, ih]
      by_cases e : a = c
      · subst e
        have : ¬ (rd_T48 l0 a).f1 = a := by omega
        rw [if_neg ni, if_neg this, if_neg (fun h => this h.2), if_pos (List.mem_cons_self ..), if_pos rfl]; rfl
      · rw [if_neg e]
        have e2 : (c ∈ a :: upL l0 K (rd_T48 l0 a).f1) ↔ c ∈ upL l0 K (rd_T48 l0 a).f1 := ⟨fun h => (List.mem_cons.1 h).resolve_left (fun z => e z.symm), List.mem_cons_of_mem _⟩
        simp only [e2]
        by_cases v : (rd_T48 l0 a).f1 = c
        · simp only [v, ha, and_self, if_true]; omega
        · simp only [v, and_false, if_false]; omega
theorem chi_step (amps : List Int) (c : Int) (p n : Nat) : ∀ m : Nat, chiL l0 l3 amps c p (n + 1) m = chiL l0 l3 amps c p n m + (if bitOf (rd_T42 l3 (n : Int)).f2 p = true then rd amps n else 0) * cntC l0 c (wayL l0 l3 n) m
  | 0 => by simp [chiL, cntC]
  | m + 1 => by
    simp only [chiL, cntC, chi_step amps c p n m, sumL]
    exact alg2 _ _ _ _ _ _ _
theorem sums_eq (F : FineS l0 l1 l2 l3 l4) (amps : List Int) (c : Nat) (hc : c < l0.length) (p : Nat) : ∀ n, n ≤ l3.length → sumL l0 l3 amps c p n = dirL l3 amps c p n + chiL l0 l3 amps c p n l0.length
  | 0, _ => by
    have : ∀ m, chiL l0 l3 amps c p 0 m = 0 := by
      intro m; induction m with
      | zero => rfl
      | succ m ih => simp [chiL, ih, sumL]
    simp [sumL, dirL, this]
  | n + 1, h => by
    have a := F.at_ (a := (n : Int)) (by omega) (by omega)
    have hn0 := F.n0
    have cw := cnt_way F (c : Int) (by omega) 17 _ a.2 (by omega)
    rw [chi_step]
    simp only [sumL, dirL, sums_eq F amps c hc p n (by omega)]
    show _ = _ + (_ + _ * cntC l0 c (upL l0 17 _) _)
    rw [cw]
    show _ + (if (c : Int) ∈ upL l0 17 _ ∧ _ then _ else _) = _
    exact alg1 _ _ _ _ _ _ (fun e => by rw [e]; unfold upL; rw [if_neg (by omega)]; exact List.mem_cons_self ..)
theorem dir_bd {amps : List Int} (ha : AmpsF l3.length amps) (c : Int) (p : Nat) : ∀ i, i ≤ l3.length → 0 ≤ dirL l3 amps c p i ∧ dirL l3 amps c p i ≤ 80 * i
  | 0, _ => by simp [dirL]
  | i + 1, h => by
    have a := dir_bd ha c p i (by omega)
    have b := ha.get i (by omega)
    simp only [dirL]
    split <;> omega
theorem chi_bd {amps : List Int} (F : FineS l0 l1 l2 l3 l4) (ha : AmpsF l3.length amps) (c : Int) (p : Nat) : ∀ m : Nat, 0 ≤ chiL l0 l3 amps c p l3.length m ∧ chiL l0 l3 amps c p l3.length m ≤ 1280 * m
  | 0 => by simp [chiL]
  | m + 1 => by
    have a := chi_bd F ha c p m
    have b := sum_bd (l0 := l0) (l3 := l3) ha.get (m : Int) p l3.length (Nat.le_refl _)
    have := F.n3
    simp only [chiL]
    split <;> omega
theorem ts_l3 (F : FineS l0 l1 l2 l3 l4) {amps : List Int} (ha : AmpsF l3.length amps) (c : Nat) (hc : c < l0.length) (hn : Evt (fun k => w08_TreeSums.l0 k true amps (loadsV l0 l3 amps) l0.length (c + 1 : Nat) l0 l1 l2 l3 l4) true) : ∀ (e j : Nat), j + e = l0.length →
    Evt (fun k => w08_TreeSums.l3 k true amps (loadsV l0 l3 amps) c l0.length c l0 l0.length j l0 l1 l2 l3 l4 (dirL l3 amps c 0 l3.length + chiL l0 l3 amps c 0 l3.length j) (dirL l3 amps c 1 l3.length + chiL l0 l3 amps c 1 l3.length j) (dirL l3 amps c 2 l3.length + chiL l0 l3 amps c 2 l3.length j)) true := by
  have hn0 := F.n0
  have hn3 := F.n3
  have hl := loadsV_len (l0 := l0) (l3 := l3) amps
  intro e
  induction e with
  | zero =>
    intro j hj
    obtain rfl : j = l0.length := by omega
    refine hn.step fun k _ => ?_
    have g := loads_at F ha.get c hc
    have s0 := sums_eq F amps c hc 0 l3.length (Nat.le_refl _)
    have s1 := sums_eq F amps c hc 1 l3.length (Nat.le_refl _)
    have s2 := sums_eq F amps c hc 2 l3.length (Nat.le_refl _)
    simp only [w08_TreeSums.l3, hl, g]
    rw [if_neg (by omega), if_pos (by omega), if_pos (by omega), s0, s1, s2, if_neg (by simp), hb_wrap64 _ (by omega) (by omega)]; rfl
  | succ e ih =>
    intro j hj
    have g := loads_at F ha.get j (by omega)
    have d0 := dir_bd (l3 := l3) ha (c : Int) 0 l3.length (Nat.le_refl _)
    have h0 := chi_bd F ha (c : Int) 0 j
    have q0 := sum_bd (l0 := l0) (l3 := l3) ha.get (j : Int) 0 l3.length (Nat.le_refl _)
    have n0 : (dirL l3 amps c 0 l3.length + chiL l0 l3 amps c 0 l3.length (j + 1)) = (dirL l3 amps c 0 l3.length + chiL l0 l3 amps c 0 l3.length j) + (if (rd_T48 l0 (j : Int)).f1 = (c : Int) then sumL l0 l3 amps (j : Int) 0 l3.length else 0) := by simp only [chiL]; omega
    have d1 := dir_bd (l3 := l3) ha (c : Int) 1 l3.length (Nat.le_refl _)
    have h1 := chi_bd F ha (c : Int) 1 j
    have q1 := sum_bd (l0 := l0) (l3 := l3) ha.get (j : Int) 1 l3.length (Nat.le_refl _)
    have n1 : (dirL l3 amps c 1 l3.length + chiL l0 l3 amps c 1 l3.length (j + 1)) = (dirL l3 amps c 1 l3.length + chiL l0 l3 amps c 1 l3.length j) + (if (rd_T48 l0 (j : Int)).f1 = (c : Int) then sumL l0 l3 amps (j : Int) 1 l3.length else 0) := by simp only [chiL]; omega
    have d2 := dir_bd (l3 := l3) ha (c : Int) 2 l3.length (Nat.le_refl _)
    have h2 := chi_bd F ha (c : Int) 2 j
    have q2 := sum_bd (l0 := l0) (l3 := l3) ha.get (j : Int) 2 l3.length (Nat.le_refl _)
    have n2 : (dirL l3 amps c 2 l3.length + chiL l0 l3 amps c 2 l3.length (j + 1)) = (dirL l3 amps c 2 l3.length + chiL l0 l3 amps c 2 l3.length j) + (if (rd_T48 l0 (j : Int)).f1 = (c : Int) then sumL l0 l3 amps (j : Int) 2 l3.length else 0) := by simp only [chiL]; omega
    have z3 : Evt (fun k => w08_TreeSums.l4 k true amps (loadsV l0 l3 amps) c j l0.length c l0 l0.length j 3 l0 l1 l2 l3 l4 (dirL l3 amps c 0 l3.length + chiL l0 l3 amps c 0 l3.length (j + 1)) (dirL l3 amps c 1 l3.length + chiL l0 l3 amps c 1 l3.length (j + 1)) (dirL l3 amps c 2 l3.length + chiL l0 l3 amps c 2 l3.length (j + 1)) ((rd_T48 l0 (j : Int)).f0) ((rd_T48 l0 (j : Int)).f1) ((rd_T48 l0 (j : Int)).f2) ((rd_T48 l0 (j : Int)).f3) ((rd_T48 l0 (j : Int)).f4.f0) ((rd_T48 l0 (j : Int)).f4.f1) ((rd_T48 l0 (j : Int)).f5.f0) ((rd_T48 l0 (j : Int)).f5.f1) ((rd_T48 l0 (j : Int)).f5.f2) ((rd_T48 l0 (j : Int)).f5.f3) ((rd_T48 l0 (j : Int)).f5.f4)) true := by
      refine (ih (j + 1) (by omega)).step fun k _ => ?_
      simp only [w08_TreeSums.l4]
      rw [if_neg (by omega), hb_wrap64 _ (by omega) (by omega)]; rfl
    by_cases u : (rd_T48 l0 (j : Int)).f1 = (c : Int)
    · rw [if_pos u] at n0 n1 n2
      have z2 : Evt (fun k => w08_TreeSums.l4 k true amps (loadsV l0 l3 amps) c j l0.length c l0 l0.length j 2 l0 l1 l2 l3 l4 (dirL l3 amps c 0 l3.length + chiL l0 l3 amps c 0 l3.length (j + 1)) (dirL l3 amps c 1 l3.length + chiL l0 l3 amps c 1 l3.length (j + 1)) (dirL l3 amps c 2 l3.length + chiL l0 l3 amps c 2 l3.length j) ((rd_T48 l0 (j : Int)).f0) ((rd_T48 l0 (j : Int)).f1) ((rd_T48 l0 (j : Int)).f2) ((rd_T48 l0 (j : Int)).f3) ((rd_T48 l0 (j : Int)).f4.f0) ((rd_T48 l0 (j : Int)).f4.f1) ((rd_T48 l0 (j : Int)).f5.f0) ((rd_T48 l0 (j : Int)).f5.f1) ((rd_T48 l0 (j : Int)).f5.f2) ((rd_T48 l0 (j : Int)).f5.f3) ((rd_T48 l0 (j : Int)).f5.f4)) true := by
        refine z3.step fun k _ => ?_
        simp only [w08_TreeSums.l4, hl, g]
        rw [if_pos (by omega), if_pos u, if_neg (by omega), if_neg (by omega), if_pos trivial, if_pos (by omega), if_pos (by omega), hb_wrap64 (_ + sumL _ _ _ _ _ _) (by omega) (by omega), hb_wrap64 _ (by omega) (by omega), ← n2]; rfl
      have z1 : Evt (fun k => w08_TreeSums.l4 k true amps (loadsV l0 l3 amps) c j l0.length c l0 l0.length j 1 l0 l1 l2 l3 l4 (dirL l3 amps c 0 l3.length + chiL l0 l3 amps c 0 l3.length (j + 1)) (dirL l3 amps c 1 l3.length + chiL l0 l3 amps c 1 l3.length j) (dirL l3 amps c 2 l3.length + chiL l0 l3 amps c 2 l3.length j) ((rd_T48 l0 (j : Int)).f0) ((rd_T48 l0 (j : Int)).f1) ((rd_T48 l0 (j : Int)).f2) ((rd_T48 l0 (j : Int)).f3) ((rd_T48 l0 (j : Int)).f4.f0) ((rd_T48 l0 (j : Int)).f4.f1) ((rd_T48 l0 (j : Int)).f5.f0) ((rd_T48 l0 (j : Int)).f5.f1) ((rd_T48 l0 (j : Int)).f5.f2) ((rd_T48 l0 (j : Int)).f5.f3) ((rd_T48 l0 (j : Int)).f5.f4)) true := by
        refine z2.step fun k _ => ?_
        simp only [w08_TreeSums.l4, hl, g]
        rw [if_pos (by omega), if_pos u, if_neg (by omega), if_pos trivial, if_pos (by omega), if_pos (by omega), hb_wrap64 (_ + sumL _ _ _ _ _ _) (by omega) (by omega), hb_wrap64 _ (by omega) (by omega), ← n1]; rfl
      have z0 : Evt (fun k => w08_TreeSums.l4 k true amps (loadsV l0 l3 amps) c j l0.length c l0 l0.length j 0 l0 l1 l2 l3 l4 (dirL l3 amps c 0 l3.length + chiL l0 l3 amps c 0 l3.length j) (dirL l3 amps c 1 l3.length + chiL l0 l3 amps c 1 l3.length j) (dirL l3 amps c 2 l3.length + chiL l0 l3 amps c 2 l3.length j) ((rd_T48 l0 (j : Int)).f0) ((rd_T48 l0 (j : Int)).f1) ((rd_T48 l0 (j : Int)).f2) ((rd_T48 l0 (j : Int)).f3) ((rd_T48 l0 (j : Int)).f4.f0) ((rd_T48 l0 (j : Int)).f4.f1) ((rd_T48 l0 (j : Int)).f5.f0) ((rd_T48 l0 (j : Int)).f5.f1) ((rd_T48 l0 (j : Int)).f5.f2) ((rd_T48 l0 (j : Int)).f5.f3) ((rd_T48 l0 (j : Int)).f5.f4)) true := by
        refine z1.step fun k _ => ?_
        simp only [w08_TreeSums.l4, hl, g]
        rw [if_pos (by omega), if_pos u, if_pos trivial, if_pos (by omega), if_pos (by omega), hb_wrap64 (_ + sumL _ _ _ _ _ _) (by omega) (by omega), hb_wrap64 _ (by omega) (by omega), ← n0]; rfl
      refine z0.step fun k _ => ?_
      simp only [w08_TreeSums.l3]
      rw [if_pos (by omega), if_pos (by omega), if_pos (by omega)]
    · rw [if_neg u, Int.add_zero] at n0 n1 n2
      have z2 : Evt (fun k => w08_TreeSums.l4 k true amps (loadsV l0 l3 amps) c j l0.length c l0 l0.length j 2 l0 l1 l2 l3 l4 (dirL l3 amps c 0 l3.length + chiL l0 l3 amps c 0 l3.length (j + 1)) (dirL l3 amps c 1 l3.length + chiL l0 l3 amps c 1 l3.length (j + 1)) (dirL l3 amps c 2 l3.length + chiL l0 l3 amps c 2 l3.length j) ((rd_T48 l0 (j : Int)).f0) ((rd_T48 l0 (j : Int)).f1) ((rd_T48 l0 (j : Int)).f2) ((rd_T48 l0 (j : Int)).f3) ((rd_T48 l0 (j : Int)).f4.f0) ((rd_T48 l0 (j : Int)).f4.f1) ((rd_T48 l0 (j : Int)).f5.f0) ((rd_T48 l0 (j : Int)).f5.f1) ((rd_T48 l0 (j : Int)).f5.f2) ((rd_T48 l0 (j : Int)).f5.f3) ((rd_T48 l0 (j : Int)).f5.f4)) true := by
        refine z3.step fun k _ => ?_
        simp only [w08_TreeSums.l4]
        rw [if_pos (by omega), if_neg u, hb_wrap64 _ (by omega) (by omega), ← n2]; rfl
      have z1 : Evt (fun k => w08_TreeSums.l4 k true amps (loadsV l0 l3 amps) c j l0.length c l0 l0.length j 1 l0 l1 l2 l3 l4 (dirL l3 amps c 0 l3.length + chiL l0 l3 amps c 0 l3.length (j + 1)) (dirL l3 amps c 1 l3.length + chiL l0 l3 amps c 1 l3.length j) (dirL l3 amps c 2 l3.length + chiL l0 l3 amps c 2 l3.length j) ((rd_T48 l0 (j : Int)).f0) ((rd_T48 l0 (j : Int)).f1) ((rd_T48 l0 (j : Int)).f2) ((rd_T48 l0 (j : Int)).f3) ((rd_T48 l0 (j : Int)).f4.f0) ((rd_T48 l0 (j : Int)).f4.f1) ((rd_T48 l0 (j : Int)).f5.f0) ((rd_T48 l0 (j : Int)).f5.f1) ((rd_T48 l0 (j : Int)).f5.f2) ((rd_T48 l0 (j : Int)).f5.f3) ((rd_T48 l0 (j : Int)).f5.f4)) true := by
        refine z2.step fun k _ => ?_
        simp only [w08_TreeSums.l4]
        rw [if_pos (by omega), if_neg u, hb_wrap64 _ (by omega) (by omega), ← n1]; rfl
      have z0 : Evt (fun k => w08_TreeSums.l4 k true amps (loadsV l0 l3 amps) c j l0.length c l0 l0.length j 0 l0 l1 l2 l3 l4 (dirL l3 amps c 0 l3.length + chiL l0 l3 amps c 0 l3.length j) (dirL l3 amps c 1 l3.length + chiL l0 l3 amps c 1 l3.length j) (dirL l3 amps c 2 l3.length + chiL l0 l3 amps c 2 l3.length j) ((rd_T48 l0 (j : Int)).f0) ((rd_T48 l0 (j : Int)).f1) ((rd_T48 l0 (j : Int)).f2) ((rd_T48 l0 (j : Int)).f3) ((rd_T48 l0 (j : Int)).f4.f0) ((rd_T48 l0 (j : Int)).f4.f1) ((rd_T48 l0 (j : Int)).f5.f0) ((rd_T48 l0 (j : Int)).f5.f1) ((rd_T48 l0 (j : Int)).f5.f2) ((rd_T48 l0 (j : Int)).f5.f3) ((rd_T48 l0 (j : Int)).f5.f4)) true := by
        refine z1.step fun k _ => ?_
        simp only [w08_TreeSums.l4]
        rw [if_pos (by omega), if_neg u, hb_wrap64 _ (by omega) (by omega), ← n0]; rfl
      refine z0.step fun k _ => ?_
      simp only [w08_TreeSums.l3]
      rw [if_pos (by omega), if_pos (by omega), if_pos (by omega)]
theorem ts_l1 (F : FineS l0 l1 l2 l3 l4) {amps : List Int} (ha : AmpsF l3.length amps) (c : Nat) (hc : c < l0.length) (hn : Evt (fun k => w08_TreeSums.l0 k true amps (loadsV l0 l3 amps) l0.length (c + 1 : Nat) l0 l1 l2 l3 l4) true) : ∀ (e i : Nat), i + e = l3.length →
    Evt (fun k => w08_TreeSums.l1 k true amps (loadsV l0 l3 amps) c l0.length c l3 l3.length i l0 l1 l2 l3 l4 (dirL l3 amps c 0 i) (dirL l3 amps c 1 i) (dirL l3 amps c 2 i)) true := by
  have hn0 := F.n0
  have hn3 := F.n3
  have hl := ha.len
  intro e
  induction e with
  | zero =>
    intro i hi
    obtain rfl : i = l3.length := by omega
    have z : ∀ p, chiL l0 l3 amps c p l3.length 0 = 0 := fun p => rfl
    have h3 := ts_l3 F ha c hc hn l0.length 0 (by omega)
    simp only [z, Int.add_zero] at h3
    refine h3.step fun k _ => ?_
    simp only [w08_TreeSums.l1]
    rw [if_neg (by omega)]; rfl
  | succ e ih =>
    intro i hi
    have a := ha.get i (by omega)
    have ph := F.ph (a := (i : Int)) (by omega) (by omega)
    have bt := shr_val _ ph.1 ph.2
    have d0 := dir_bd (l3 := l3) ha (c : Int) 0 i (by omega)
    have n0 : (dirL l3 amps c 0 (i + 1)) = (dirL l3 amps c 0 i) + (if (rd_T42 l3 (i : Int)).f1 = (c : Int) ∧ bitOf (rd_T42 l3 (i : Int)).f2 0 = true then rd amps i else 0) := rfl
    have d1 := dir_bd (l3 := l3) ha (c : Int) 1 i (by omega)
    have n1 : (dirL l3 amps c 1 (i + 1)) = (dirL l3 amps c 1 i) + (if (rd_T42 l3 (i : Int)).f1 = (c : Int) ∧ bitOf (rd_T42 l3 (i : Int)).f2 1 = true then rd amps i else 0) := rfl
    have d2 := dir_bd (l3 := l3) ha (c : Int) 2 i (by omega)
    have n2 : (dirL l3 amps c 2 (i + 1)) = (dirL l3 amps c 2 i) + (if (rd_T42 l3 (i : Int)).f1 = (c : Int) ∧ bitOf (rd_T42 l3 (i : Int)).f2 2 = true then rd amps i else 0) := rfl
    have z3 : Evt (fun k => w08_TreeSums.l2 k true amps (loadsV l0 l3 amps) c i l0.length c l3 l3.length i 3 l0 l1 l2 l3 l4 (dirL l3 amps c 0 (i + 1)) (dirL l3 amps c 1 (i + 1)) (dirL l3 amps c 2 (i + 1)) ((rd_T42 l3 (i : Int)).f0) ((rd_T42 l3 (i : Int)).f1) ((rd_T42 l3 (i : Int)).f2) ((rd_T42 l3 (i : Int)).f3) ((rd_T42 l3 (i : Int)).f4) ((rd_T42 l3 (i : Int)).f5) ((rd_T42 l3 (i : Int)).f6) ((rd_T42 l3 (i : Int)).f7)) true := by
      refine (ih (i + 1) (by omega)).step fun k _ => ?_
      simp only [w08_TreeSums.l2]
      rw [if_neg (by omega), hb_wrap64 _ (by omega) (by omega)]; rfl
    have z2 : Evt (fun k => w08_TreeSums.l2 k true amps (loadsV l0 l3 amps) c i l0.length c l3 l3.length i 2 l0 l1 l2 l3 l4 (dirL l3 amps c 0 (i + 1)) (dirL l3 amps c 1 (i + 1)) (dirL l3 amps c 2 i) ((rd_T42 l3 (i : Int)).f0) ((rd_T42 l3 (i : Int)).f1) ((rd_T42 l3 (i : Int)).f2) ((rd_T42 l3 (i : Int)).f3) ((rd_T42 l3 (i : Int)).f4) ((rd_T42 l3 (i : Int)).f5) ((rd_T42 l3 (i : Int)).f6) ((rd_T42 l3 (i : Int)).f7)) true := by
      refine z3.step fun k _ => ?_
      simp only [w08_TreeSums.l2, bt.2.2, bv_one]
      rw [if_pos (by omega), hb_wrap64 (2 + 1) (by omega) (by omega)]
      by_cases u : (rd_T42 l3 (i : Int)).f1 = (c : Int)
      · by_cases b : bitOf (rd_T42 l3 (i : Int)).f2 2 = true
        · rw [if_pos ⟨u, b⟩] at n2
          rw [if_pos u, if_pos (by omega), if_pos b, if_neg (by omega), if_neg (by omega), if_pos trivial, if_pos (by omega), if_pos (by omega), hb_wrap64 _ (by omega) (by omega), ← n2]; rfl
        · rw [if_neg (fun h => b h.2), Int.add_zero] at n2
          rw [if_pos u, if_pos (by omega), if_neg b, ← n2]; rfl
      · rw [if_neg (fun h => u h.1), Int.add_zero] at n2
        rw [if_neg u, ← n2]; rfl
    have z1 : Evt (fun k => w08_TreeSums.l2 k true amps (loadsV l0 l3 amps) c i l0.length c l3 l3.length i 1 l0 l1 l2 l3 l4 (dirL l3 amps c 0 (i + 1)) (dirL l3 amps c 1 i) (dirL l3 amps c 2 i) ((rd_T42 l3 (i : Int)).f0) ((rd_T42 l3 (i : Int)).f1) ((rd_T42 l3 (i : Int)).f2) ((rd_T42 l3 (i : Int)).f3) ((rd_T42 l3 (i : Int)).f4) ((rd_T42 l3 (i : Int)).f5) ((rd_T42 l3 (i : Int)).f6) ((rd_T42 l3 (i : Int)).f7)) true := by
      refine z2.step fun k _ => ?_
      simp only [w08_TreeSums.l2, bt.2.1, bv_one]
      rw [if_pos (by omega), hb_wrap64 (1 + 1) (by omega) (by omega)]
      by_cases u : (rd_T42 l3 (i : Int)).f1 = (c : Int)
      · by_cases b : bitOf (rd_T42 l3 (i : Int)).f2 1 = true
        · rw [if_pos ⟨u, b⟩] at n1
          rw [if_pos u, if_pos (by omega), if_pos b, if_neg (by omega), if_pos trivial, if_pos (by omega), if_pos (by omega), hb_wrap64 _ (by omega) (by omega), ← n1]; rfl
        · rw [if_neg (fun h => b h.2), Int.add_zero] at n1
          rw [if_pos u, if_pos (by omega), if_neg b, ← n1]; rfl
      · rw [if_neg (fun h => u h.1), Int.add_zero] at n1
        rw [if_neg u, ← n1]; rfl
    have z0 : Evt (fun k => w08_TreeSums.l2 k true amps (loadsV l0 l3 amps) c i l0.length c l3 l3.length i 0 l0 l1 l2 l3 l4 (dirL l3 amps c 0 i) (dirL l3 amps c 1 i) (dirL l3 amps c 2 i) ((rd_T42 l3 (i : Int)).f0) ((rd_T42 l3 (i : Int)).f1) ((rd_T42 l3 (i : Int)).f2) ((rd_T42 l3 (i : Int)).f3) ((rd_T42 l3 (i : Int)).f4) ((rd_T42 l3 (i : Int)).f5) ((rd_T42 l3 (i : Int)).f6) ((rd_T42 l3 (i : Int)).f7)) true := by
      refine z1.step fun k _ => ?_
      simp only [w08_TreeSums.l2, bt.1, bv_one]
      rw [if_pos (by omega), hb_wrap64 (0 + 1) (by omega) (by omega)]
      by_cases u : (rd_T42 l3 (i : Int)).f1 = (c : Int)
      · by_cases b : bitOf (rd_T42 l3 (i : Int)).f2 0 = true
        · rw [if_pos ⟨u, b⟩] at n0
          rw [if_pos u, if_pos (by omega), if_pos b, if_pos trivial, if_pos (by omega), if_pos (by omega), hb_wrap64 _ (by omega) (by omega), ← n0]; rfl
        · rw [if_neg (fun h => b h.2), Int.add_zero] at n0
          rw [if_pos u, if_pos (by omega), if_neg b, ← n0]; rfl
      · rw [if_neg (fun h => u h.1), Int.add_zero] at n0
        rw [if_neg u, ← n0]; rfl
    refine z0.step fun k _ => ?_
    simp only [w08_TreeSums.l1]
    rw [if_pos (by omega), if_pos (by omega), if_pos (by omega)]
theorem ts_l0 (F : FineS l0 l1 l2 l3 l4) {amps : List Int} (ha : AmpsF l3.length amps) : ∀ (d c : Nat), c + d = l0.length →
    Evt (fun k => w08_TreeSums.l0 k true amps (loadsV l0 l3 amps) l0.length c l0 l1 l2 l3 l4) true := by
  intro d
  induction d with
  | zero => exact fun c hc => Evt.const fun k _ => by simp only [w08_TreeSums.l0]; rw [if_neg (by omega)]
  | succ d ih =>
    intro c hc
    refine (ts_l1 F ha c (by omega) (ih (c + 1) (by omega)) l3.length 0 (by omega)).step fun k _ => ?_
    simp only [w08_TreeSums.l0]
    rw [if_pos (by omega)]; rfl
end
theorem TreeSums : w08_TreeSums.Pure := by
  intro s l w wl
  obtain ⟨K1, hK1⟩ := head_ok
  obtain ⟨K2, hK2⟩ := usable_ok (hs_of w)
  cases hv : validB s.f0 s.f1 s.f2 s.f3 s.f4
  · refine ⟨K1 + K2, ?_⟩
    unfold w08_TreeSums.f
    rw [show w08_head.f (K1 + K2) = some true from hK1 _ (by omega), show w08_usable.f (K1 + K2) _ _ _ _ _ = _ from hK2 _ (by omega), hv]
    rfl
  · have sv := sv_ok w
    rw [hv] at sv
    have F := valid_fine hv
    have hn3 := F.n3
    obtain ⟨cs, ⟨K3, hK3⟩, hA⟩ := cur_ok (l0 := s.f0) (l1 := s.f1) (l2 := s.f2) (l3 := s.f3) (l4 := s.f4) l wl.2 (by omega)
    obtain ⟨K4, hK4⟩ := ts_l0 F hA s.f0.length 0 (by omega)
    refine ⟨K1 + K2 + K3 + K4, ?_⟩
    unfold w08_TreeSums.f
    rw [show w08_head.f (K1 + K2 + K3 + K4) = some true from hK1 _ (by omega), show w08_usable.f (K1 + K2 + K3 + K4) _ _ _ _ _ = _ from hK2 _ (by omega), hv,
      show w08_currents.f (K1 + K2 + K3 + K4) _ _ _ _ _ _ = _ from hK3 _ (by omega)]
    simp only [Option.bind_some, if_true, lds_ok sv F hA]
    exact hK4 _ (by omega)

end Go.Proofs.Ytpdmnineampimaa.Pure
