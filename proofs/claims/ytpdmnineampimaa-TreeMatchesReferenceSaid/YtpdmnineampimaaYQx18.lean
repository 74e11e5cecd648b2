import Derived.Test.YtpdmnineampimaaYe
import Derived.Test.YtpdmnineampimaaYQx14
import Derived.Test.YtpdmnineampimaaYQx15
import Derived.Test.YtpdmnineampimaaYQx16
import Derived.Test.YtpdmnineampimaaYQx17
set_option linter.unusedVariables false
set_option linter.unusedSimpArgs false
namespace Go.Proofs.Ytpdmnineampimaa.Q
open Go.RowKit Go.Proofs.YtpdmnineampimaaW.PrintWords Go.Proofs.YtpdmnineampimaaW.PrintLast Go.Proofs.YtpdmnineampimaaW.PrintMore
attribute [local go_sem] max2_int min2_int max_two min_two max_three min_three max_four min_four
def nmByte (s : ByteArray) (i : Int) : Bool := (decide (97 ≤ bt s i) && decide (bt s i ≤ 122)) || (!(decide (i = 0)) && (decide (bt s i = 95) || (decide (48 ≤ bt s i) && decide (bt s i ≤ 57))))
theorem isName_walk (a : ByteArray) (ka : Int) (b1 b2 b3 : Bool) (w : World) (h0 : parser_kindOf.f a = some ka) (h1 : parser_isAttr.f a = some b1) (h2 : parser_isArticle.f a = some b2) (h3 : parser_isWord.f a = some b3)
    (hs0 : a.size ≠ 0) (hs1 : a.size ≤ 12) (hk : ka ≤ 0) (hb1 : b1 = false) (hb2 : b2 = false) (hb3 : b3 = false) :
    Calls Try.prog 64 #[.string a] w fun e w' => e = .returned (.bool ((List.range a.size).all fun i => nmByte a i)) ∧ Below w.heap.size w w' := by
  have H0 := Lib.hid h0
  have H1 := Lib.hid h1
  have H2 := Lib.hid h2
  have H3 := Lib.hid h3
  subst hb1 hb2 hb3
  clear h0 h1 h2 h3
  have e0 : (a.toList == ([] : List UInt8)) = false := by
    rw [beq_eq_false_iff_ne]; intro h; apply hs0
    have := congrArg List.length h
    rw [ByteArray.size, Array.size]
    simpa [ByteArray.toList_eq] using this
  have hgt : decide ((a.size : Int) > 12) = false := by simp; omega
  have hgk : decide (ka > 0) = false := by simp; omega
  obtain ⟨capF, rowF, frF, hcv, hrow⟩ : ∃ (capF : World → Nat) (rowF : World → Array Value) (frF : World → Nat × Nat), (∀ W : World, (convert 9 51 (.string a)).run Try.prog W = .ok (.slice (some ⟨W.heap.size, 0, none⟩) a.size (capF W)) (W.drew.alloc (.cells (rowF W) 5 (frF W)))) ∧ ∀ W (j : Nat), j < a.size → (rowF W)[j]? = some (.int .u8 (bt a j)) := by
    refine ⟨fun W => grownCap W a.size 0 5, fun W => bytesRow a (grownCap W a.size 0 5), fun W => _, fun W => run_bytes_of_string W 9 51 5 a Try.underlying9 Try.underlying51 Try.underlying5, fun W j hj => ?_⟩
    rw [bytesRow_at a _ j hj]
    simp [bt, hj]
    rfl
  go_enter Try.func64, Try.ntmps64
  go_wp2_with fail
  refine (parser_kindOf.calls a _ _ H0.out).mono ?_
  rintro e w1 ⟨rfl, q1, rfl⟩
  go_wp2_with fail
  refine (parser_isAttr.calls a _ _ H1.out).mono ?_
  rintro e w1 ⟨rfl, q2, rfl⟩
  go_wp2_with fail
  refine (parser_isArticle.calls a _ _ H2.out).mono ?_
  rintro e w1 ⟨rfl, q3, rfl⟩
  go_wp2_with fail
  refine (parser_isWord.calls a _ _ H3.out).mono ?_
  rintro e w1 ⟨rfl, q4, rfl⟩
  go_wp2_with fail
  obtain ⟨Q, hQ⟩ : ∃ Q, q1 + q2 + q3 + q4 = Q := ⟨_, rfl⟩
  rw [hQ]
  obtain ⟨W2, hW2⟩ : ∃ W2, (w.drewN (Q + 1)).alloc (.cells (rowF (w.drewN Q)) 5 (frF (w.drewN Q))) = W2 := ⟨_, rfl⟩
  have hcell : ∀ q (j : Nat), j < a.size → (W2.drewN q).cell? ⟨w.heap.size, j, none⟩ = some (.int .u8 (bt a j)) := by
    intro q j hj
    have h := heap_alloc_new (w.drewN (Q + 1)) (.cells (rowF (w.drewN Q)) 5 (frF (w.drewN Q)))
    rw [hW2] at h
    have h' : (W2.drewN q).heap[w.heap.size]? = some (.cells (rowF (w.drewN Q)) 5 (frF (w.drewN Q))) := h
    rw [cell_of_row _ _ j _ 5 _ h']
    exact hrow _ j hj
  have hB : Below w.heap.size w W2 := by
    rw [← hW2]
    exact below_alloc (pw_below_drewN (Below.refl _ w) (Q + 1)) _
  rw [hW2]
  generalize capF (w.drewN Q) = cap
  clear hW2 hQ hrow hcv
  have HC := Lib.hid hcell
  clear hcell
  go_loopw [33] (fun i wr => ∃ k : Nat, k ≤ a.size ∧ i = .int .i64 k ∧ (∀ j : Nat, j < k → nmByte a j = true) ∧ ∃ q, wr = W2.drewN q) (fun i _ => a.size - (intOf i).toNat)
  case atStart => exact ⟨0, Nat.zero_le _, rfl, fun j hj => by omega, 0, rfl⟩
  case round =>
    obtain ⟨k, hk, rfl, hall, q, rfl⟩ := hrel
    have HA := Lib.hid hall
    clear hall
    by_cases hlt : k < a.size
    · have hcl := HC.out q k hlt
      have hr := bt_range a k
      have HN : Hid (nmByte a k = ((decide (97 ≤ bt a k) && decide (bt a k ≤ 122)) || (!(decide ((k : Int) = 0)) && (decide (bt a k = 95) || (decide (48 ≤ bt a k) && decide (bt a k ≤ 57)))))) := Lib.hid rfl
      generalize bt a k = c at *
      have good : ∀ (hgood : nmByte a k = true), ∀ j : Nat, j < k + 1 → nmByte a j = true := fun hgood j hj => by
        rcases Nat.lt_or_ge j k with z | z
        · exact HA.out j z
        · obtain rfl : j = k := by omega
          exact hgood
      have HG := Lib.hid good
      clear good
      by_cases c1 : c ≥ 97
      · by_cases c2 : c ≤ 122
        · have d1 : decide (c ≥ 97) = true := decide_eq_true (by omega)
          have d2 : decide (c ≤ 122) = true := decide_eq_true (by omega)
          have hx := Lib.hid (show nmByte a k = true by rw [HN.out]; simp; omega)
          clear HN
          go_wp2_with fail
          go_roundw
          case rel => exact ⟨k + 1, by omega, by go_num, HG.out hx.out, q, rfl⟩
          case measure => simp [intOf]; omega
        · by_cases c3 : k = 0
          · have d1 : decide (c ≥ 97) = true := decide_eq_true (by omega)
            have d2 : decide (c ≤ 122) = false := decide_eq_false (by omega)
            skip
            have hx := Lib.hid (show (List.range a.size).all (fun i => nmByte a i) = false by rw [List.all_eq_false]; exact ⟨k, List.mem_range.2 hlt, by rw [HN.out]; simp; omega⟩)
            clear HN HG HA
            subst c3
            go_wp2_with fail
            go_ret
            exact ⟨by rw [hx.out]; rfl, pw_below_drewN hB q⟩
          · have d1 : decide (c ≥ 97) = true := decide_eq_true (by omega)
            have d2 : decide (c ≤ 122) = false := decide_eq_false (by omega)
            have d3 : ((k : Int) == 0) = false := by simp; omega
            have d4 : (c != 95) = true := by simp; omega
            have d5 : decide (c < 48) = false := decide_eq_false (by omega)
            have d6 : decide (c > 57) = true := decide_eq_true (by omega)
            have hx := Lib.hid (show (List.range a.size).all (fun i => nmByte a i) = false by rw [List.all_eq_false]; exact ⟨k, List.mem_range.2 hlt, by rw [HN.out]; simp; omega⟩)
            clear HN HG
            go_wp2_with fail
            go_ret
            exact ⟨by rw [hx.out]; rfl, pw_below_drewN hB q⟩
      · by_cases c3 : k = 0
        · have d1 : decide (c ≥ 97) = false := decide_eq_false (by omega)
          skip
          have hx := Lib.hid (show (List.range a.size).all (fun i => nmByte a i) = false by rw [List.all_eq_false]; exact ⟨k, List.mem_range.2 hlt, by rw [HN.out]; simp; omega⟩)
          clear HN HG HA
          subst c3
          go_wp2_with fail
          go_ret
          exact ⟨by rw [hx.out]; rfl, pw_below_drewN hB q⟩
        · by_cases c4 : c = 95
          · have d1 : decide (c ≥ 97) = false := decide_eq_false (by omega)
            have d3 : ((k : Int) == 0) = false := by simp; omega
            have d4 : (c != 95) = false := by simp; omega
            have hx := Lib.hid (show nmByte a k = true by rw [HN.out]; simp; omega)
            clear HN
            go_wp2_with fail
            go_roundw
            case rel => exact ⟨k + 1, by omega, by go_num, HG.out hx.out, q, rfl⟩
            case measure => simp [intOf]; omega
          · by_cases c5 : c < 48
            · have d1 : decide (c ≥ 97) = false := decide_eq_false (by omega)
              have d3 : ((k : Int) == 0) = false := by simp; omega
              have d4 : (c != 95) = true := by simp; omega
              have d5 : decide (c < 48) = true := decide_eq_true (by omega)
              have hx := Lib.hid (show (List.range a.size).all (fun i => nmByte a i) = false by rw [List.all_eq_false]; exact ⟨k, List.mem_range.2 hlt, by rw [HN.out]; simp; omega⟩)
              clear HN HG
              go_wp2_with fail
              go_ret
              exact ⟨by rw [hx.out]; rfl, pw_below_drewN hB q⟩
            · by_cases c6 : c > 57
              · have d1 : decide (c ≥ 97) = false := decide_eq_false (by omega)
                have d3 : ((k : Int) == 0) = false := by simp; omega
                have d4 : (c != 95) = true := by simp; omega
                have d5 : decide (c < 48) = false := decide_eq_false (by omega)
                have d6 : decide (c > 57) = true := decide_eq_true (by omega)
                have hx := Lib.hid (show (List.range a.size).all (fun i => nmByte a i) = false by rw [List.all_eq_false]; exact ⟨k, List.mem_range.2 hlt, by rw [HN.out]; simp; omega⟩)
                clear HN HG
                go_wp2_with fail
                go_ret
                exact ⟨by rw [hx.out]; rfl, pw_below_drewN hB q⟩
              · have d1 : decide (c ≥ 97) = false := decide_eq_false (by omega)
                have d3 : ((k : Int) == 0) = false := by simp; omega
                have d4 : (c != 95) = true := by simp; omega
                have d5 : decide (c < 48) = false := decide_eq_false (by omega)
                have d6 : decide (c > 57) = false := decide_eq_false (by omega)
                have hx := Lib.hid (show nmByte a k = true by rw [HN.out]; simp; omega)
                clear HN
                go_wp2_with fail
                go_roundw
                case rel => exact ⟨k + 1, by omega, by go_num, HG.out hx.out, q, rfl⟩
                case measure => simp [intOf]; omega
    · obtain rfl : k = a.size := by omega
      have hx := Lib.hid (show (List.range a.size).all (fun i => nmByte a i) = true by rw [List.all_eq_true]; exact fun j hj => HA.out j (List.mem_range.1 hj))
      go_wp2_with fail
      go_ret
      exact ⟨by rw [hx.out]; rfl, pw_below_drewN hB q⟩
theorem isName_early0 (a : ByteArray) (ka : Int) (b1 b2 b3 : Bool) (w : World) (hs0 : a.size = 0) :
    Calls Try.prog 64 #[.string a] w fun e w' => e = .returned (.bool false) ∧ Below w.heap.size w w' := by
  have e0 : (a.toList == ([] : List UInt8)) = true := by
    rw [beq_iff_eq]
    apply List.eq_nil_of_length_eq_zero
    rw [ByteArray.size, Array.size] at hs0
    simpa [ByteArray.toList_eq] using hs0
  go_enter Try.func64, Try.ntmps64
  go_wp2_with fail
  go_ret
  exact ⟨rfl, Below.refl _ w⟩
theorem isName_early1 (a : ByteArray) (ka : Int) (b1 b2 b3 : Bool) (w : World) (hs0 : a.size ≠ 0) (hs1 : a.size > 12) :
    Calls Try.prog 64 #[.string a] w fun e w' => e = .returned (.bool false) ∧ Below w.heap.size w w' := by
  have e0 : (a.toList == ([] : List UInt8)) = false := by
    rw [beq_eq_false_iff_ne]; intro h; apply hs0
    have := congrArg List.length h
    rw [ByteArray.size, Array.size]
    simpa [ByteArray.toList_eq] using this
  have hgt : decide ((a.size : Int) > 12) = true := by simp; omega
  go_enter Try.func64, Try.ntmps64
  go_wp2_with fail
  go_ret
  exact ⟨rfl, Below.refl _ w⟩
theorem isName_early2 (a : ByteArray) (ka : Int) (b1 b2 b3 : Bool) (w : World) (hs0 : a.size ≠ 0) (hs1 : a.size ≤ 12) (h0 : parser_kindOf.f a = some ka) (hk : ka > 0) :
    Calls Try.prog 64 #[.string a] w fun e w' => e = .returned (.bool false) ∧ Below w.heap.size w w' := by
  have e0 : (a.toList == ([] : List UInt8)) = false := by
    rw [beq_eq_false_iff_ne]; intro h; apply hs0
    have := congrArg List.length h
    rw [ByteArray.size, Array.size]
    simpa [ByteArray.toList_eq] using this
  have hgt : decide ((a.size : Int) > 12) = false := by simp; omega
  have hgk : decide (ka > 0) = true := by simp; omega
  have H0 := Lib.hid h0
  clear h0
  go_enter Try.func64, Try.ntmps64
  go_wp2_with fail
  refine (parser_kindOf.calls a _ _ H0.out).mono ?_
  rintro e w1 ⟨rfl, q0, rfl⟩
  go_wp2_with fail
  go_ret
  exact ⟨rfl, by repeat (first | exact Below.refl _ w | apply pw_below_drewN)⟩
theorem isName_early3 (a : ByteArray) (ka : Int) (b1 b2 b3 : Bool) (w : World) (hs0 : a.size ≠ 0) (hs1 : a.size ≤ 12) (h0 : parser_kindOf.f a = some ka) (hk : ka ≤ 0) (h1 : parser_isAttr.f a = some true) :
    Calls Try.prog 64 #[.string a] w fun e w' => e = .returned (.bool false) ∧ Below w.heap.size w w' := by
  have e0 : (a.toList == ([] : List UInt8)) = false := by
    rw [beq_eq_false_iff_ne]; intro h; apply hs0
    have := congrArg List.length h
    rw [ByteArray.size, Array.size]
    simpa [ByteArray.toList_eq] using this
  have hgt : decide ((a.size : Int) > 12) = false := by simp; omega
  have hgk : decide (ka > 0) = false := by simp; omega
  have H0 := Lib.hid h0
  have H1 := Lib.hid h1
  clear h0 h1
  go_enter Try.func64, Try.ntmps64
  go_wp2_with fail
  refine (parser_kindOf.calls a _ _ H0.out).mono ?_
  rintro e w1 ⟨rfl, q0, rfl⟩
  go_wp2_with fail
  refine (parser_isAttr.calls a _ _ H1.out).mono ?_
  rintro e w1 ⟨rfl, q1, rfl⟩
  go_wp2_with fail
  go_ret
  exact ⟨rfl, by repeat (first | exact Below.refl _ w | apply pw_below_drewN)⟩
theorem isName_early4 (a : ByteArray) (ka : Int) (b1 b2 b3 : Bool) (w : World) (hs0 : a.size ≠ 0) (hs1 : a.size ≤ 12) (h0 : parser_kindOf.f a = some ka) (hk : ka ≤ 0) (h1 : parser_isAttr.f a = some false) (h2 : parser_isArticle.f a = some true) :
    Calls Try.prog 64 #[.string a] w fun e w' => e = .returned (.bool false) ∧ Below w.heap.size w w' := by
  have e0 : (a.toList == ([] : List UInt8)) = false := by
    rw [beq_eq_false_iff_ne]; intro h; apply hs0
    have := congrArg List.length h
    rw [ByteArray.size, Array.size]
    simpa [ByteArray.toList_eq] using this
  have hgt : decide ((a.size : Int) > 12) = false := by simp; omega
  have hgk : decide (ka > 0) = false := by simp; omega
  have H0 := Lib.hid h0
  have H1 := Lib.hid h1
  have H2 := Lib.hid h2
  clear h0 h1 h2
  go_enter Try.func64, Try.ntmps64
  go_wp2_with fail
  refine (parser_kindOf.calls a _ _ H0.out).mono ?_
  rintro e w1 ⟨rfl, q0, rfl⟩
  go_wp2_with fail
  refine (parser_isAttr.calls a _ _ H1.out).mono ?_
  rintro e w1 ⟨rfl, q1, rfl⟩
  go_wp2_with fail
  refine (parser_isArticle.calls a _ _ H2.out).mono ?_
  rintro e w1 ⟨rfl, q2, rfl⟩
  go_wp2_with fail
  go_ret
  exact ⟨rfl, by repeat (first | exact Below.refl _ w | apply pw_below_drewN)⟩
theorem isName_early5 (a : ByteArray) (ka : Int) (b1 b2 b3 : Bool) (w : World) (hs0 : a.size ≠ 0) (hs1 : a.size ≤ 12) (h0 : parser_kindOf.f a = some ka) (hk : ka ≤ 0) (h1 : parser_isAttr.f a = some false) (h2 : parser_isArticle.f a = some false) (h3 : parser_isWord.f a = some true) :
    Calls Try.prog 64 #[.string a] w fun e w' => e = .returned (.bool false) ∧ Below w.heap.size w w' := by
  have e0 : (a.toList == ([] : List UInt8)) = false := by
    rw [beq_eq_false_iff_ne]; intro h; apply hs0
    have := congrArg List.length h
    rw [ByteArray.size, Array.size]
    simpa [ByteArray.toList_eq] using this
  have hgt : decide ((a.size : Int) > 12) = false := by simp; omega
  have hgk : decide (ka > 0) = false := by simp; omega
  have H0 := Lib.hid h0
  have H1 := Lib.hid h1
  have H2 := Lib.hid h2
  have H3 := Lib.hid h3
  clear h0 h1 h2 h3
  go_enter Try.func64, Try.ntmps64
  go_wp2_with fail
  refine (parser_kindOf.calls a _ _ H0.out).mono ?_
  rintro e w1 ⟨rfl, q0, rfl⟩
  go_wp2_with fail
  refine (parser_isAttr.calls a _ _ H1.out).mono ?_
  rintro e w1 ⟨rfl, q1, rfl⟩
  go_wp2_with fail
  refine (parser_isArticle.calls a _ _ H2.out).mono ?_
  rintro e w1 ⟨rfl, q2, rfl⟩
  go_wp2_with fail
  refine (parser_isWord.calls a _ _ H3.out).mono ?_
  rintro e w1 ⟨rfl, q3, rfl⟩
  go_wp2_with fail
  go_ret
  exact ⟨rfl, by repeat (first | exact Below.refl _ w | apply pw_below_drewN)⟩
def parser_isName.f (a0 : ByteArray) : Option (Bool) :=
  if a0.size = 0 then some false else if 12 < a0.size then some false else
  (parser_kindOf.f a0).bind fun k => if k > 0 then some false else
  (parser_isAttr.f a0).bind fun b1 => if b1 = true then some false else
  (parser_isArticle.f a0).bind fun b2 => if b2 = true then some false else
  (parser_isWord.f a0).bind fun b3 => if b3 = true then some false else some ((List.range a0.size).all fun i => nmByte a0 i)
theorem parser_isName.calls (a0 : ByteArray) (r : Bool) (w : World) (h : parser_isName.f a0 = some r) :
    Calls Try.prog 64 #[.string a0] w fun e w' => e = .returned (.bool r) ∧ Below w.heap.size w w' := by
  unfold parser_isName.f at h
  by_cases c0 : a0.size = 0
  · rw [if_pos c0] at h; cases h; exact isName_early0 a0 0 false false false w c0
  rw [if_neg c0] at h
  by_cases c1 : 12 < a0.size
  · rw [if_pos c1] at h; cases h; exact isName_early1 a0 0 false false false w c0 c1
  rw [if_neg c1] at h
  obtain ⟨k, h0, h⟩ := Option.bind_eq_some_iff.mp h
  by_cases c2 : k > 0
  · rw [if_pos c2] at h; cases h; exact isName_early2 a0 k false false false w c0 (by omega) h0 c2
  rw [if_neg c2] at h
  obtain ⟨b1, h1, h⟩ := Option.bind_eq_some_iff.mp h
  cases b1
  · rw [if_neg (by decide)] at h
    obtain ⟨b2, h2, h⟩ := Option.bind_eq_some_iff.mp h
    cases b2
    · rw [if_neg (by decide)] at h
      obtain ⟨b3, h3, h⟩ := Option.bind_eq_some_iff.mp h
      cases b3
      · rw [if_neg (by decide)] at h; cases h; exact isName_walk a0 k _ _ _ w h0 h1 h2 h3 c0 (by omega) (by omega) rfl rfl rfl
      · rw [if_pos rfl] at h; cases h; exact isName_early5 a0 k false false false w c0 (by omega) h0 (by omega) h1 h2 h3
    · rw [if_pos rfl] at h; cases h; exact isName_early4 a0 k false false false w c0 (by omega) h0 (by omega) h1 h2
  · rw [if_pos rfl] at h; cases h; exact isName_early3 a0 k false false false w c0 (by omega) h0 (by omega) h1
end Go.Proofs.Ytpdmnineampimaa.Q
