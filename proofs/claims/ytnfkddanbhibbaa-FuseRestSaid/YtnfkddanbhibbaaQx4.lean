-- Written by a program of this session (wip/tools/mk.py), through the kit's print program.
import Derived.Test.YtnfkddanbhibbaaQx0
namespace Go.Proofs.Ytnfkddanbhibbaa.Q
open Go.RowKit Go.Proofs.YtnfkddanbhibbaaW.PrintWords Go.Proofs.YtnfkddanbhibbaaW.PrintLast Go.Proofs.YtnfkddanbhibbaaW.PrintMore
attribute [local go_sem] max2_int min2_int max_two min_two max_three min_three max_four min_four   -- for this text's walks alone
set_option linter.unusedVariables false
set_option linter.unusedSimpArgs false

-- EXTRA
-- IMPORT Derived.ProofKit
-- IMPORT Derived.OpenShut
-- IMPORT Derived.ChangeOld
-- IMPORT Derived.SizedLaws
/-! ### arguments of any kind, opened -/
section
variable {H : Type} {α : Type}
/-- Whatever reads as data of type t is a value of the kind d. -/
def Opens (enc : TypeId × Value → H) (P : Program) (W : World) (t : TypeId) (d : Kd α) (wf : α → Prop) : Prop :=
  ∀ (base : Nat) (spare : Nat → Bool) (held : Bool) (fuel : Nat) (cs : List Value) (x : DataW H × List MemPlace), DataW.trod enc P W base spare held fuel t cs = some x → ∃ a, d.K W a cs ∧ wf a
theorem opens_int {enc : TypeId × Value → H} {P : Program} {W : World} {t : TypeId} {k : IntKind} (ht : P.underlying t = some (.int k)) : Opens enc P W t (Kd.int k) (fun a => (Lit.int k a).wf = true) := by
  intro base spare held fuel cs x h
  obtain ⟨n, rfl, _, hw⟩ := DataW.trod_int ht h
  exact ⟨n, rfl, hw⟩
theorem opens_bool {enc : TypeId × Value → H} {P : Program} {W : World} {t : TypeId} (ht : P.underlying t = some .bool) : Opens enc P W t Kd.bool (fun _ => True) := by
  intro base spare held fuel cs x h
  obtain ⟨n, rfl, _⟩ := DataW.trod_bool ht h
  exact ⟨n, rfl, trivial⟩
theorem opens_string {enc : TypeId × Value → H} {P : Program} {W : World} {t : TypeId} (ht : P.underlying t = some .string) : Opens enc P W t Kd.string (fun a => a.size ≤ maxLen) := by
  intro base spare held fuel cs x h
  obtain ⟨n, rfl, _, hw⟩ := DataW.trod_string ht h
  exact ⟨n, rfl, hw⟩
theorem list_choice {β : Type} (p : Nat → β → Prop) : ∀ n : Nat, (∀ i, i < n → ∃ b, p i b) → ∃ l : List β, l.length = n ∧ ∀ i b, l[i]? = some b → p i b
  | 0, _ => ⟨[], rfl, fun i b h => by simp at h⟩
  | n + 1, h => by
    obtain ⟨l, hl, hp⟩ := list_choice p n (fun i hi => h i (by omega))
    obtain ⟨b, hb⟩ := h n (by omega)
    refine ⟨l ++ [b], by simp [hl], fun i c hc => ?_⟩
    rcases Nat.lt_or_ge i l.length with hi | hi
    · rw [List.getElem?_append_left hi] at hc; exact hp i c hc
    · rw [List.getElem?_append_right hi] at hc
      have : i - l.length = 0 := by
        rcases Nat.eq_zero_or_pos (i - l.length) with h0 | h0
        · exact h0
        · rw [List.getElem?_eq_none (by simp; omega)] at hc; cases hc
      rw [this] at hc
      simp only [List.getElem?_cons_zero, Option.some.injEq] at hc
      subst hc
      have : i = n := by omega
      rw [this]; exact hb
theorem cells_get {w : World} {base : Nat} {a : Addr} {n : Nat} {cs : List Value} (h : w.cells? base a n = some cs) {j : Nat} {u : Value} (hj : cs[j]? = some u) : w.cell? (a.add j) = some u := by
  unfold World.cells? at h
  split at h
  · have hl := mapM_some_length h
    rw [List.length_range] at hl
    have hlt : j < cs.length := (List.getElem?_eq_some_iff.1 hj).1
    have := mapM_some_get h j j (by rw [List.getElem?_range (by omega)])
    rw [this, hj]
  · cases h
theorem opens_slice {enc : TypeId × Value → H} {P : Program} {W : World} {t e : TypeId} {d : Kd α} {wf : α → Prop} (ht : P.underlying t = some (.slice e)) (hc : P.cellsOf e = d.sz) (h : Opens enc P W e d wf) :
    Opens enc P W t (Kd.slice e d) (fun l => l.length ≤ maxLen ∧ ∀ x ∈ l, wf x) := by
  intro base spare held fuel cs x hx
  rcases DataW.trod_slice ht hx with ⟨rfl, _⟩ | ⟨a, len, cap, elems, rest, n, _, rfl, _, _, hlc, hm, hel, hget, _, _⟩
  · exact ⟨[], ⟨none, 0, rfl, Nat.le_refl _, Kd.C_nil d W⟩, by simp, by simp⟩
  · obtain ⟨l, hl, hp⟩ := list_choice (fun i b => ∃ c : List Value, c.length = d.sz ∧ d.K W b c ∧ (∀ j u, c[j]? = some u → W.cell? (a.add (i * d.sz + j)) = some u) ∧ wf b) len (fun i hi => by
      have g := hget i hi
      obtain ⟨y, hy⟩ : ∃ y, elems[i]? = some y := ⟨_, List.getElem?_eq_getElem (by omega)⟩
      rw [hy] at g
      obtain ⟨c, hcs, htr⟩ := Option.bind_eq_some_iff.1 g
      obtain ⟨b, hK, hw⟩ := h base spare held n c y htr
      refine ⟨b, c, d.K_len hK, hK, fun j u hj => ?_, hw⟩
      have := cells_get hcs hj
      rw [hc] at this
      rwa [Addr.add_add] at this)
    refine ⟨l, ⟨some a, cap, by rw [hl], by omega, rfl, ?_, fun _ => ⟨a, rfl, fun j p hj => ?_⟩⟩, by omega, fun x hx => ?_⟩
    · have : maxLen = 9223372036854775807 := rfl
      omega
    · obtain ⟨c, h1, h2, h3, _⟩ := hp j p hj
      exact ⟨c, h1, h2, h3⟩
    · obtain ⟨i, hi, rfl⟩ := List.mem_iff_getElem.1 hx
      obtain ⟨c, h1, h2, h3, h4⟩ := hp i _ (List.getElem?_eq_getElem hi)
      exact h4
end
theorem hd_eq_of_cons {α : Type} {a b : α} {l m : List α} (h : a :: l = b :: m) : a = b := by injection h

end Go.Proofs.Ytnfkddanbhibbaa.Q
