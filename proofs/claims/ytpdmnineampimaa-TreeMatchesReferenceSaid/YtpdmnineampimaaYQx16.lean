import Derived.Test.YtpdmnineampimaaYe
set_option linter.unusedVariables false
set_option linter.unusedSimpArgs false
namespace Go.Proofs.Ytpdmnineampimaa.Q
open Go.RowKit Go.Proofs.YtpdmnineampimaaW.PrintWords Go.Proofs.YtpdmnineampimaaW.PrintLast Go.Proofs.YtpdmnineampimaaW.PrintMore
attribute [local go_sem] max2_int min2_int max_two min_two max_three min_three max_four min_four
def parser_isArticle.f (a0 : ByteArray) : Option (Bool) := if a0.toList = ([115, 116, 97, 114, 116] : List UInt8) then (some true) else (if a0.toList = ([101, 110, 101, 114, 103, 121] : List UInt8) then (some true) else (if a0.toList = ([116, 105, 109, 101] : List UInt8) then (some true) else (if a0.toList = ([105, 100, 108, 101] : List UInt8) then (some true) else (if a0.toList = ([99, 97, 112] : List UInt8) then (some true) else (if a0.toList = ([116, 97, 120] : List UInt8) then (some true) else (some false))))))
set_option maxHeartbeats 8000000 in
set_option maxRecDepth 100000 in
theorem parser_isArticle.calls (a0 : ByteArray) (r : Bool) (w : World) (h : parser_isArticle.f a0 = some r) :
    Calls Try.prog 68 #[.string a0] w fun e w' => e = .returned (.bool r) ∧ Drawn0 w w' := by
  have H : (if a0.toList = ([115, 116, 97, 114, 116] : List UInt8) then (some true) else (if a0.toList = ([101, 110, 101, 114, 103, 121] : List UInt8) then (some true) else (if a0.toList = ([116, 105, 109, 101] : List UInt8) then (some true) else (if a0.toList = ([105, 100, 108, 101] : List UInt8) then (some true) else (if a0.toList = ([99, 97, 112] : List UInt8) then (some true) else (if a0.toList = ([116, 97, 120] : List UInt8) then (some true) else (some false))))))) = some r := h
  clear h
  by_cases c2 : a0.toList = ([115, 116, 97, 114, 116] : List UInt8)
  · rw [if_pos c2] at H
    have c2b0 : (a0.toList == ([115, 116, 97, 114, 116] : List UInt8)) = true := beq_iff_eq.mpr c2
    have c2b1 : (a0.toList != ([115, 116, 97, 114, 116] : List UInt8)) = false := bne_eq_false_iff_eq.mpr c2
    clear c2
    obtain rfl := Option.some.inj H
    go_enter Try.func68, Try.ntmps68
    go_wp2
    go_ret
    exact ⟨by first | rfl | (simp; done) | (simp [*]; done), by repeat (first | exact Drawn0.refl _ | apply Drawn0.step)⟩
  · rw [if_neg c2] at H
    have c2b0 : (a0.toList == ([115, 116, 97, 114, 116] : List UInt8)) = false := beq_eq_false_iff_ne.mpr c2
    have c2b1 : (a0.toList != ([115, 116, 97, 114, 116] : List UInt8)) = true := bne_iff_ne.mpr c2
    by_cases c3 : a0.toList = ([101, 110, 101, 114, 103, 121] : List UInt8)
    · rw [if_pos c3] at H
      have c3b0 : (a0.toList == ([101, 110, 101, 114, 103, 121] : List UInt8)) = true := beq_iff_eq.mpr c3
      have c3b1 : (a0.toList != ([101, 110, 101, 114, 103, 121] : List UInt8)) = false := bne_eq_false_iff_eq.mpr c3
      clear c3
      obtain rfl := Option.some.inj H
      go_enter Try.func68, Try.ntmps68
      go_wp2
      go_ret
      exact ⟨by first | rfl | (simp; done) | (simp [*]; done), by repeat (first | exact Drawn0.refl _ | apply Drawn0.step)⟩
    · rw [if_neg c3] at H
      have c3b0 : (a0.toList == ([101, 110, 101, 114, 103, 121] : List UInt8)) = false := beq_eq_false_iff_ne.mpr c3
      have c3b1 : (a0.toList != ([101, 110, 101, 114, 103, 121] : List UInt8)) = true := bne_iff_ne.mpr c3
      by_cases c4 : a0.toList = ([116, 105, 109, 101] : List UInt8)
      · rw [if_pos c4] at H
        have c4b0 : (a0.toList == ([116, 105, 109, 101] : List UInt8)) = true := beq_iff_eq.mpr c4
        have c4b1 : (a0.toList != ([116, 105, 109, 101] : List UInt8)) = false := bne_eq_false_iff_eq.mpr c4
        clear c4
        obtain rfl := Option.some.inj H
        go_enter Try.func68, Try.ntmps68
        go_wp2
        go_ret
        exact ⟨by first | rfl | (simp; done) | (simp [*]; done), by repeat (first | exact Drawn0.refl _ | apply Drawn0.step)⟩
      · rw [if_neg c4] at H
        have c4b0 : (a0.toList == ([116, 105, 109, 101] : List UInt8)) = false := beq_eq_false_iff_ne.mpr c4
        have c4b1 : (a0.toList != ([116, 105, 109, 101] : List UInt8)) = true := bne_iff_ne.mpr c4
        by_cases c5 : a0.toList = ([105, 100, 108, 101] : List UInt8)
        · rw [if_pos c5] at H
          have c5b0 : (a0.toList == ([105, 100, 108, 101] : List UInt8)) = true := beq_iff_eq.mpr c5
          have c5b1 : (a0.toList != ([105, 100, 108, 101] : List UInt8)) = false := bne_eq_false_iff_eq.mpr c5
          clear c5
          obtain rfl := Option.some.inj H
          go_enter Try.func68, Try.ntmps68
          go_wp2
          go_ret
          exact ⟨by first | rfl | (simp; done) | (simp [*]; done), by repeat (first | exact Drawn0.refl _ | apply Drawn0.step)⟩
        · rw [if_neg c5] at H
          have c5b0 : (a0.toList == ([105, 100, 108, 101] : List UInt8)) = false := beq_eq_false_iff_ne.mpr c5
          have c5b1 : (a0.toList != ([105, 100, 108, 101] : List UInt8)) = true := bne_iff_ne.mpr c5
          by_cases c6 : a0.toList = ([99, 97, 112] : List UInt8)
          · rw [if_pos c6] at H
            have c6b0 : (a0.toList == ([99, 97, 112] : List UInt8)) = true := beq_iff_eq.mpr c6
            have c6b1 : (a0.toList != ([99, 97, 112] : List UInt8)) = false := bne_eq_false_iff_eq.mpr c6
            clear c6
            obtain rfl := Option.some.inj H
            go_enter Try.func68, Try.ntmps68
            go_wp2
            go_ret
            exact ⟨by first | rfl | (simp; done) | (simp [*]; done), by repeat (first | exact Drawn0.refl _ | apply Drawn0.step)⟩
          · rw [if_neg c6] at H
            have c6b0 : (a0.toList == ([99, 97, 112] : List UInt8)) = false := beq_eq_false_iff_ne.mpr c6
            have c6b1 : (a0.toList != ([99, 97, 112] : List UInt8)) = true := bne_iff_ne.mpr c6
            by_cases c7 : a0.toList = ([116, 97, 120] : List UInt8)
            · rw [if_pos c7] at H
              have c7b0 : (a0.toList == ([116, 97, 120] : List UInt8)) = true := beq_iff_eq.mpr c7
              have c7b1 : (a0.toList != ([116, 97, 120] : List UInt8)) = false := bne_eq_false_iff_eq.mpr c7
              clear c7
              obtain rfl := Option.some.inj H
              go_enter Try.func68, Try.ntmps68
              go_wp2
              go_ret
              exact ⟨by first | rfl | (simp; done) | (simp [*]; done), by repeat (first | exact Drawn0.refl _ | apply Drawn0.step)⟩
            · rw [if_neg c7] at H
              have c7b0 : (a0.toList == ([116, 97, 120] : List UInt8)) = false := beq_eq_false_iff_ne.mpr c7
              have c7b1 : (a0.toList != ([116, 97, 120] : List UInt8)) = true := bne_iff_ne.mpr c7
              obtain rfl := Option.some.inj H
              go_enter Try.func68, Try.ntmps68
              go_wp2
              go_ret
              exact ⟨by first | rfl | (simp; done) | (simp [*]; done), by repeat (first | exact Drawn0.refl _ | apply Drawn0.step)⟩
end Go.Proofs.Ytpdmnineampimaa.Q
