import Derived.Test.YtpdmnineampimaaYe
set_option linter.unusedVariables false
set_option linter.unusedSimpArgs false
namespace Go.Proofs.Ytpdmnineampimaa.Q
open Go.RowKit Go.Proofs.YtpdmnineampimaaW.PrintWords Go.Proofs.YtpdmnineampimaaW.PrintLast Go.Proofs.YtpdmnineampimaaW.PrintMore
attribute [local go_sem] max2_int min2_int max_two min_two max_three min_three max_four min_four
def parser_kindOf.f (a0 : ByteArray) : Option (Int) := if a0.toList = ([102, 101, 101, 100, 101, 114] : List UInt8) then (some 1) else (if a0.toList = ([99, 97, 98, 108, 101] : List UInt8) then (some 2) else (if a0.toList = ([111, 119, 110, 101, 114] : List UInt8) then (some 3) else (if a0.toList = ([99, 111, 110, 116, 114, 97, 99, 116] : List UInt8) then (some 4) else (if a0.toList = ([99, 104, 97, 114, 103, 101, 114] : List UInt8) then (some 5) else (if a0.toList = ([98, 97, 121] : List UInt8) then (some 6) else (if a0.toList = ([116, 97, 114, 105, 102, 102] : List UInt8) then (some 7) else (some 0)))))))
set_option maxHeartbeats 8000000 in
set_option maxRecDepth 100000 in
theorem parser_kindOf.calls (a0 : ByteArray) (r : Int) (w : World) (h : parser_kindOf.f a0 = some r) :
    Calls Try.prog 66 #[.string a0] w fun e w' => e = .returned (.int .i64 r) ∧ Drawn0 w w' := by
  have H : (if a0.toList = ([102, 101, 101, 100, 101, 114] : List UInt8) then (some 1) else (if a0.toList = ([99, 97, 98, 108, 101] : List UInt8) then (some 2) else (if a0.toList = ([111, 119, 110, 101, 114] : List UInt8) then (some 3) else (if a0.toList = ([99, 111, 110, 116, 114, 97, 99, 116] : List UInt8) then (some 4) else (if a0.toList = ([99, 104, 97, 114, 103, 101, 114] : List UInt8) then (some 5) else (if a0.toList = ([98, 97, 121] : List UInt8) then (some 6) else (if a0.toList = ([116, 97, 114, 105, 102, 102] : List UInt8) then (some 7) else (some 0)))))))) = some r := h
  clear h
  by_cases c2 : a0.toList = ([102, 101, 101, 100, 101, 114] : List UInt8)
  · rw [if_pos c2] at H
    have c2b0 : (a0.toList == ([102, 101, 101, 100, 101, 114] : List UInt8)) = true := beq_iff_eq.mpr c2
    have c2b1 : (a0.toList != ([102, 101, 101, 100, 101, 114] : List UInt8)) = false := bne_eq_false_iff_eq.mpr c2
    clear c2
    obtain rfl := Option.some.inj H
    go_enter Try.func66, Try.ntmps66
    go_wp2
    go_ret
    exact ⟨by first | rfl | (simp; done) | (simp [*]; done), by repeat (first | exact Drawn0.refl _ | apply Drawn0.step)⟩
  · rw [if_neg c2] at H
    have c2b0 : (a0.toList == ([102, 101, 101, 100, 101, 114] : List UInt8)) = false := beq_eq_false_iff_ne.mpr c2
    have c2b1 : (a0.toList != ([102, 101, 101, 100, 101, 114] : List UInt8)) = true := bne_iff_ne.mpr c2
    by_cases c3 : a0.toList = ([99, 97, 98, 108, 101] : List UInt8)
    · rw [if_pos c3] at H
      have c3b0 : (a0.toList == ([99, 97, 98, 108, 101] : List UInt8)) = true := beq_iff_eq.mpr c3
      have c3b1 : (a0.toList != ([99, 97, 98, 108, 101] : List UInt8)) = false := bne_eq_false_iff_eq.mpr c3
      clear c3
      obtain rfl := Option.some.inj H
      go_enter Try.func66, Try.ntmps66
      go_wp2
      go_ret
      exact ⟨by first | rfl | (simp; done) | (simp [*]; done), by repeat (first | exact Drawn0.refl _ | apply Drawn0.step)⟩
    · rw [if_neg c3] at H
      have c3b0 : (a0.toList == ([99, 97, 98, 108, 101] : List UInt8)) = false := beq_eq_false_iff_ne.mpr c3
      have c3b1 : (a0.toList != ([99, 97, 98, 108, 101] : List UInt8)) = true := bne_iff_ne.mpr c3
      by_cases c4 : a0.toList = ([111, 119, 110, 101, 114] : List UInt8)
      · rw [if_pos c4] at H
        have c4b0 : (a0.toList == ([111, 119, 110, 101, 114] : List UInt8)) = true := beq_iff_eq.mpr c4
        have c4b1 : (a0.toList != ([111, 119, 110, 101, 114] : List UInt8)) = false := bne_eq_false_iff_eq.mpr c4
        clear c4
        obtain rfl := Option.some.inj H
        go_enter Try.func66, Try.ntmps66
        go_wp2
        go_ret
        exact ⟨by first | rfl | (simp; done) | (simp [*]; done), by repeat (first | exact Drawn0.refl _ | apply Drawn0.step)⟩
      · rw [if_neg c4] at H
        have c4b0 : (a0.toList == ([111, 119, 110, 101, 114] : List UInt8)) = false := beq_eq_false_iff_ne.mpr c4
        have c4b1 : (a0.toList != ([111, 119, 110, 101, 114] : List UInt8)) = true := bne_iff_ne.mpr c4
        by_cases c5 : a0.toList = ([99, 111, 110, 116, 114, 97, 99, 116] : List UInt8)
        · rw [if_pos c5] at H
          have c5b0 : (a0.toList == ([99, 111, 110, 116, 114, 97, 99, 116] : List UInt8)) = true := beq_iff_eq.mpr c5
          have c5b1 : (a0.toList != ([99, 111, 110, 116, 114, 97, 99, 116] : List UInt8)) = false := bne_eq_false_iff_eq.mpr c5
          clear c5
          obtain rfl := Option.some.inj H
          go_enter Try.func66, Try.ntmps66
          go_wp2
          go_ret
          exact ⟨by first | rfl | (simp; done) | (simp [*]; done), by repeat (first | exact Drawn0.refl _ | apply Drawn0.step)⟩
        · rw [if_neg c5] at H
          have c5b0 : (a0.toList == ([99, 111, 110, 116, 114, 97, 99, 116] : List UInt8)) = false := beq_eq_false_iff_ne.mpr c5
          have c5b1 : (a0.toList != ([99, 111, 110, 116, 114, 97, 99, 116] : List UInt8)) = true := bne_iff_ne.mpr c5
          by_cases c6 : a0.toList = ([99, 104, 97, 114, 103, 101, 114] : List UInt8)
          · rw [if_pos c6] at H
            have c6b0 : (a0.toList == ([99, 104, 97, 114, 103, 101, 114] : List UInt8)) = true := beq_iff_eq.mpr c6
            have c6b1 : (a0.toList != ([99, 104, 97, 114, 103, 101, 114] : List UInt8)) = false := bne_eq_false_iff_eq.mpr c6
            clear c6
            obtain rfl := Option.some.inj H
            go_enter Try.func66, Try.ntmps66
            go_wp2
            go_ret
            exact ⟨by first | rfl | (simp; done) | (simp [*]; done), by repeat (first | exact Drawn0.refl _ | apply Drawn0.step)⟩
          · rw [if_neg c6] at H
            have c6b0 : (a0.toList == ([99, 104, 97, 114, 103, 101, 114] : List UInt8)) = false := beq_eq_false_iff_ne.mpr c6
            have c6b1 : (a0.toList != ([99, 104, 97, 114, 103, 101, 114] : List UInt8)) = true := bne_iff_ne.mpr c6
            by_cases c7 : a0.toList = ([98, 97, 121] : List UInt8)
            · rw [if_pos c7] at H
              have c7b0 : (a0.toList == ([98, 97, 121] : List UInt8)) = true := beq_iff_eq.mpr c7
              have c7b1 : (a0.toList != ([98, 97, 121] : List UInt8)) = false := bne_eq_false_iff_eq.mpr c7
              clear c7
              obtain rfl := Option.some.inj H
              go_enter Try.func66, Try.ntmps66
              go_wp2
              go_ret
              exact ⟨by first | rfl | (simp; done) | (simp [*]; done), by repeat (first | exact Drawn0.refl _ | apply Drawn0.step)⟩
            · rw [if_neg c7] at H
              have c7b0 : (a0.toList == ([98, 97, 121] : List UInt8)) = false := beq_eq_false_iff_ne.mpr c7
              have c7b1 : (a0.toList != ([98, 97, 121] : List UInt8)) = true := bne_iff_ne.mpr c7
              by_cases c8 : a0.toList = ([116, 97, 114, 105, 102, 102] : List UInt8)
              · rw [if_pos c8] at H
                have c8b0 : (a0.toList == ([116, 97, 114, 105, 102, 102] : List UInt8)) = true := beq_iff_eq.mpr c8
                have c8b1 : (a0.toList != ([116, 97, 114, 105, 102, 102] : List UInt8)) = false := bne_eq_false_iff_eq.mpr c8
                clear c8
                obtain rfl := Option.some.inj H
                go_enter Try.func66, Try.ntmps66
                go_wp2
                go_ret
                exact ⟨by first | rfl | (simp; done) | (simp [*]; done), by repeat (first | exact Drawn0.refl _ | apply Drawn0.step)⟩
              · rw [if_neg c8] at H
                have c8b0 : (a0.toList == ([116, 97, 114, 105, 102, 102] : List UInt8)) = false := beq_eq_false_iff_ne.mpr c8
                have c8b1 : (a0.toList != ([116, 97, 114, 105, 102, 102] : List UInt8)) = true := bne_iff_ne.mpr c8
                obtain rfl := Option.some.inj H
                go_enter Try.func66, Try.ntmps66
                go_wp2
                go_ret
                exact ⟨by first | rfl | (simp; done) | (simp [*]; done), by repeat (first | exact Drawn0.refl _ | apply Drawn0.step)⟩
end Go.Proofs.Ytpdmnineampimaa.Q
