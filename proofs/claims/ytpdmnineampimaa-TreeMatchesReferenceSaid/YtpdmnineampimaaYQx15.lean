import Derived.Test.YtpdmnineampimaaYe
set_option linter.unusedVariables false
set_option linter.unusedSimpArgs false
namespace Go.Proofs.Ytpdmnineampimaa.Q
open Go.RowKit Go.Proofs.YtpdmnineampimaaW.PrintWords Go.Proofs.YtpdmnineampimaaW.PrintLast Go.Proofs.YtpdmnineampimaaW.PrintMore
attribute [local go_sem] max2_int min2_int max_two min_two max_three min_three max_four min_four
def parser_isAttr.f (a0 : ByteArray) : Option (Bool) := if a0.toList = ([108, 105, 109, 105, 116] : List UInt8) then (some true) else (if a0.toList = ([110, 101, 117, 116, 114, 97, 108] : List UInt8) then (some true) else (if a0.toList = ([102, 117, 115, 101] : List UInt8) then (some true) else (if a0.toList = ([116, 104, 101, 114, 109, 97, 108] : List UInt8) then (some true) else (if a0.toList = ([102, 114, 111, 109] : List UInt8) then (some true) else (if a0.toList = ([97, 116] : List UInt8) then (some true) else (if a0.toList = ([112, 104, 97, 115, 101, 115] : List UInt8) then (some true) else (if a0.toList = ([97, 109, 112, 115] : List UInt8) then (some true) else (if a0.toList = ([102, 97, 108, 108, 98, 97, 99, 107] : List UInt8) then (some true) else (if a0.toList = ([111, 119, 110, 101, 114] : List UInt8) then (some true) else (if a0.toList = ([99, 97, 114, 100] : List UInt8) then (some true) else (if a0.toList = ([114, 97, 110, 107] : List UInt8) then (some true) else (if a0.toList = ([99, 104, 97, 114, 103, 101, 114] : List UInt8) then (some true) else (some false)))))))))))))
set_option maxHeartbeats 8000000 in
set_option maxRecDepth 100000 in
theorem parser_isAttr.calls (a0 : ByteArray) (r : Bool) (w : World) (h : parser_isAttr.f a0 = some r) :
    Calls Try.prog 67 #[.string a0] w fun e w' => e = .returned (.bool r) ∧ Drawn0 w w' := by
  have H : (if a0.toList = ([108, 105, 109, 105, 116] : List UInt8) then (some true) else (if a0.toList = ([110, 101, 117, 116, 114, 97, 108] : List UInt8) then (some true) else (if a0.toList = ([102, 117, 115, 101] : List UInt8) then (some true) else (if a0.toList = ([116, 104, 101, 114, 109, 97, 108] : List UInt8) then (some true) else (if a0.toList = ([102, 114, 111, 109] : List UInt8) then (some true) else (if a0.toList = ([97, 116] : List UInt8) then (some true) else (if a0.toList = ([112, 104, 97, 115, 101, 115] : List UInt8) then (some true) else (if a0.toList = ([97, 109, 112, 115] : List UInt8) then (some true) else (if a0.toList = ([102, 97, 108, 108, 98, 97, 99, 107] : List UInt8) then (some true) else (if a0.toList = ([111, 119, 110, 101, 114] : List UInt8) then (some true) else (if a0.toList = ([99, 97, 114, 100] : List UInt8) then (some true) else (if a0.toList = ([114, 97, 110, 107] : List UInt8) then (some true) else (if a0.toList = ([99, 104, 97, 114, 103, 101, 114] : List UInt8) then (some true) else (some false)))))))))))))) = some r := h
  clear h
  by_cases c2 : a0.toList = ([108, 105, 109, 105, 116] : List UInt8)
  · rw [if_pos c2] at H
    have c2b0 : (a0.toList == ([108, 105, 109, 105, 116] : List UInt8)) = true := beq_iff_eq.mpr c2
    have c2b1 : (a0.toList != ([108, 105, 109, 105, 116] : List UInt8)) = false := bne_eq_false_iff_eq.mpr c2
    clear c2
    obtain rfl := Option.some.inj H
    go_enter Try.func67, Try.ntmps67
    go_wp2
    go_ret
    exact ⟨by first | rfl | (simp; done) | (simp [*]; done), by repeat (first | exact Drawn0.refl _ | apply Drawn0.step)⟩
  · rw [if_neg c2] at H
    have c2b0 : (a0.toList == ([108, 105, 109, 105, 116] : List UInt8)) = false := beq_eq_false_iff_ne.mpr c2
    have c2b1 : (a0.toList != ([108, 105, 109, 105, 116] : List UInt8)) = true := bne_iff_ne.mpr c2
    by_cases c3 : a0.toList = ([110, 101, 117, 116, 114, 97, 108] : List UInt8)
    · rw [if_pos c3] at H
      have c3b0 : (a0.toList == ([110, 101, 117, 116, 114, 97, 108] : List UInt8)) = true := beq_iff_eq.mpr c3
      have c3b1 : (a0.toList != ([110, 101, 117, 116, 114, 97, 108] : List UInt8)) = false := bne_eq_false_iff_eq.mpr c3
      clear c3
      obtain rfl := Option.some.inj H
      go_enter Try.func67, Try.ntmps67
      go_wp2
      go_ret
      exact ⟨by first | rfl | (simp; done) | (simp [*]; done), by repeat (first | exact Drawn0.refl _ | apply Drawn0.step)⟩
    · rw [if_neg c3] at H
      have c3b0 : (a0.toList == ([110, 101, 117, 116, 114, 97, 108] : List UInt8)) = false := beq_eq_false_iff_ne.mpr c3
      have c3b1 : (a0.toList != ([110, 101, 117, 116, 114, 97, 108] : List UInt8)) = true := bne_iff_ne.mpr c3
      by_cases c4 : a0.toList = ([102, 117, 115, 101] : List UInt8)
      · rw [if_pos c4] at H
        have c4b0 : (a0.toList == ([102, 117, 115, 101] : List UInt8)) = true := beq_iff_eq.mpr c4
        have c4b1 : (a0.toList != ([102, 117, 115, 101] : List UInt8)) = false := bne_eq_false_iff_eq.mpr c4
        clear c4
        obtain rfl := Option.some.inj H
        go_enter Try.func67, Try.ntmps67
        go_wp2
        go_ret
        exact ⟨by first | rfl | (simp; done) | (simp [*]; done), by repeat (first | exact Drawn0.refl _ | apply Drawn0.step)⟩
      · rw [if_neg c4] at H
        have c4b0 : (a0.toList == ([102, 117, 115, 101] : List UInt8)) = false := beq_eq_false_iff_ne.mpr c4
        have c4b1 : (a0.toList != ([102, 117, 115, 101] : List UInt8)) = true := bne_iff_ne.mpr c4
        by_cases c5 : a0.toList = ([116, 104, 101, 114, 109, 97, 108] : List UInt8)
        · rw [if_pos c5] at H
          have c5b0 : (a0.toList == ([116, 104, 101, 114, 109, 97, 108] : List UInt8)) = true := beq_iff_eq.mpr c5
          have c5b1 : (a0.toList != ([116, 104, 101, 114, 109, 97, 108] : List UInt8)) = false := bne_eq_false_iff_eq.mpr c5
          clear c5
          obtain rfl := Option.some.inj H
          go_enter Try.func67, Try.ntmps67
          go_wp2
          go_ret
          exact ⟨by first | rfl | (simp; done) | (simp [*]; done), by repeat (first | exact Drawn0.refl _ | apply Drawn0.step)⟩
        · rw [if_neg c5] at H
          have c5b0 : (a0.toList == ([116, 104, 101, 114, 109, 97, 108] : List UInt8)) = false := beq_eq_false_iff_ne.mpr c5
          have c5b1 : (a0.toList != ([116, 104, 101, 114, 109, 97, 108] : List UInt8)) = true := bne_iff_ne.mpr c5
          by_cases c6 : a0.toList = ([102, 114, 111, 109] : List UInt8)
          · rw [if_pos c6] at H
            have c6b0 : (a0.toList == ([102, 114, 111, 109] : List UInt8)) = true := beq_iff_eq.mpr c6
            have c6b1 : (a0.toList != ([102, 114, 111, 109] : List UInt8)) = false := bne_eq_false_iff_eq.mpr c6
            clear c6
            obtain rfl := Option.some.inj H
            go_enter Try.func67, Try.ntmps67
            go_wp2
            go_ret
            exact ⟨by first | rfl | (simp; done) | (simp [*]; done), by repeat (first | exact Drawn0.refl _ | apply Drawn0.step)⟩
          · rw [if_neg c6] at H
            have c6b0 : (a0.toList == ([102, 114, 111, 109] : List UInt8)) = false := beq_eq_false_iff_ne.mpr c6
            have c6b1 : (a0.toList != ([102, 114, 111, 109] : List UInt8)) = true := bne_iff_ne.mpr c6
            by_cases c7 : a0.toList = ([97, 116] : List UInt8)
            · rw [if_pos c7] at H
              have c7b0 : (a0.toList == ([97, 116] : List UInt8)) = true := beq_iff_eq.mpr c7
              have c7b1 : (a0.toList != ([97, 116] : List UInt8)) = false := bne_eq_false_iff_eq.mpr c7
              clear c7
              obtain rfl := Option.some.inj H
              go_enter Try.func67, Try.ntmps67
              go_wp2
              go_ret
              exact ⟨by first | rfl | (simp; done) | (simp [*]; done), by repeat (first | exact Drawn0.refl _ | apply Drawn0.step)⟩
            · rw [if_neg c7] at H
              have c7b0 : (a0.toList == ([97, 116] : List UInt8)) = false := beq_eq_false_iff_ne.mpr c7
              have c7b1 : (a0.toList != ([97, 116] : List UInt8)) = true := bne_iff_ne.mpr c7
              by_cases c8 : a0.toList = ([112, 104, 97, 115, 101, 115] : List UInt8)
              · rw [if_pos c8] at H
                have c8b0 : (a0.toList == ([112, 104, 97, 115, 101, 115] : List UInt8)) = true := beq_iff_eq.mpr c8
                have c8b1 : (a0.toList != ([112, 104, 97, 115, 101, 115] : List UInt8)) = false := bne_eq_false_iff_eq.mpr c8
                clear c8
                obtain rfl := Option.some.inj H
                go_enter Try.func67, Try.ntmps67
                go_wp2
                go_ret
                exact ⟨by first | rfl | (simp; done) | (simp [*]; done), by repeat (first | exact Drawn0.refl _ | apply Drawn0.step)⟩
              · rw [if_neg c8] at H
                have c8b0 : (a0.toList == ([112, 104, 97, 115, 101, 115] : List UInt8)) = false := beq_eq_false_iff_ne.mpr c8
                have c8b1 : (a0.toList != ([112, 104, 97, 115, 101, 115] : List UInt8)) = true := bne_iff_ne.mpr c8
                by_cases c9 : a0.toList = ([97, 109, 112, 115] : List UInt8)
                · rw [if_pos c9] at H
                  have c9b0 : (a0.toList == ([97, 109, 112, 115] : List UInt8)) = true := beq_iff_eq.mpr c9
                  have c9b1 : (a0.toList != ([97, 109, 112, 115] : List UInt8)) = false := bne_eq_false_iff_eq.mpr c9
                  clear c9
                  obtain rfl := Option.some.inj H
                  go_enter Try.func67, Try.ntmps67
                  go_wp2
                  go_ret
                  exact ⟨by first | rfl | (simp; done) | (simp [*]; done), by repeat (first | exact Drawn0.refl _ | apply Drawn0.step)⟩
                · rw [if_neg c9] at H
                  have c9b0 : (a0.toList == ([97, 109, 112, 115] : List UInt8)) = false := beq_eq_false_iff_ne.mpr c9
                  have c9b1 : (a0.toList != ([97, 109, 112, 115] : List UInt8)) = true := bne_iff_ne.mpr c9
                  by_cases c10 : a0.toList = ([102, 97, 108, 108, 98, 97, 99, 107] : List UInt8)
                  · rw [if_pos c10] at H
                    have c10b0 : (a0.toList == ([102, 97, 108, 108, 98, 97, 99, 107] : List UInt8)) = true := beq_iff_eq.mpr c10
                    have c10b1 : (a0.toList != ([102, 97, 108, 108, 98, 97, 99, 107] : List UInt8)) = false := bne_eq_false_iff_eq.mpr c10
                    clear c10
                    obtain rfl := Option.some.inj H
                    go_enter Try.func67, Try.ntmps67
                    go_wp2
                    go_ret
                    exact ⟨by first | rfl | (simp; done) | (simp [*]; done), by repeat (first | exact Drawn0.refl _ | apply Drawn0.step)⟩
                  · rw [if_neg c10] at H
                    have c10b0 : (a0.toList == ([102, 97, 108, 108, 98, 97, 99, 107] : List UInt8)) = false := beq_eq_false_iff_ne.mpr c10
                    have c10b1 : (a0.toList != ([102, 97, 108, 108, 98, 97, 99, 107] : List UInt8)) = true := bne_iff_ne.mpr c10
                    by_cases c11 : a0.toList = ([111, 119, 110, 101, 114] : List UInt8)
                    · rw [if_pos c11] at H
                      have c11b0 : (a0.toList == ([111, 119, 110, 101, 114] : List UInt8)) = true := beq_iff_eq.mpr c11
                      have c11b1 : (a0.toList != ([111, 119, 110, 101, 114] : List UInt8)) = false := bne_eq_false_iff_eq.mpr c11
                      clear c11
                      obtain rfl := Option.some.inj H
                      go_enter Try.func67, Try.ntmps67
                      go_wp2
                      go_ret
                      exact ⟨by first | rfl | (simp; done) | (simp [*]; done), by repeat (first | exact Drawn0.refl _ | apply Drawn0.step)⟩
                    · rw [if_neg c11] at H
                      have c11b0 : (a0.toList == ([111, 119, 110, 101, 114] : List UInt8)) = false := beq_eq_false_iff_ne.mpr c11
                      have c11b1 : (a0.toList != ([111, 119, 110, 101, 114] : List UInt8)) = true := bne_iff_ne.mpr c11
                      by_cases c12 : a0.toList = ([99, 97, 114, 100] : List UInt8)
                      · rw [if_pos c12] at H
                        have c12b0 : (a0.toList == ([99, 97, 114, 100] : List UInt8)) = true := beq_iff_eq.mpr c12
                        have c12b1 : (a0.toList != ([99, 97, 114, 100] : List UInt8)) = false := bne_eq_false_iff_eq.mpr c12
                        clear c12
                        obtain rfl := Option.some.inj H
                        go_enter Try.func67, Try.ntmps67
                        go_wp2
                        go_ret
                        exact ⟨by first | rfl | (simp; done) | (simp [*]; done), by repeat (first | exact Drawn0.refl _ | apply Drawn0.step)⟩
                      · rw [if_neg c12] at H
                        have c12b0 : (a0.toList == ([99, 97, 114, 100] : List UInt8)) = false := beq_eq_false_iff_ne.mpr c12
                        have c12b1 : (a0.toList != ([99, 97, 114, 100] : List UInt8)) = true := bne_iff_ne.mpr c12
                        by_cases c13 : a0.toList = ([114, 97, 110, 107] : List UInt8)
                        · rw [if_pos c13] at H
                          have c13b0 : (a0.toList == ([114, 97, 110, 107] : List UInt8)) = true := beq_iff_eq.mpr c13
                          have c13b1 : (a0.toList != ([114, 97, 110, 107] : List UInt8)) = false := bne_eq_false_iff_eq.mpr c13
                          clear c13
                          obtain rfl := Option.some.inj H
                          go_enter Try.func67, Try.ntmps67
                          go_wp2
                          go_ret
                          exact ⟨by first | rfl | (simp; done) | (simp [*]; done), by repeat (first | exact Drawn0.refl _ | apply Drawn0.step)⟩
                        · rw [if_neg c13] at H
                          have c13b0 : (a0.toList == ([114, 97, 110, 107] : List UInt8)) = false := beq_eq_false_iff_ne.mpr c13
                          have c13b1 : (a0.toList != ([114, 97, 110, 107] : List UInt8)) = true := bne_iff_ne.mpr c13
                          by_cases c14 : a0.toList = ([99, 104, 97, 114, 103, 101, 114] : List UInt8)
                          · rw [if_pos c14] at H
                            have c14b0 : (a0.toList == ([99, 104, 97, 114, 103, 101, 114] : List UInt8)) = true := beq_iff_eq.mpr c14
                            have c14b1 : (a0.toList != ([99, 104, 97, 114, 103, 101, 114] : List UInt8)) = false := bne_eq_false_iff_eq.mpr c14
                            clear c14
                            obtain rfl := Option.some.inj H
                            go_enter Try.func67, Try.ntmps67
                            go_wp2
                            go_ret
                            exact ⟨by first | rfl | (simp; done) | (simp [*]; done), by repeat (first | exact Drawn0.refl _ | apply Drawn0.step)⟩
                          · rw [if_neg c14] at H
                            have c14b0 : (a0.toList == ([99, 104, 97, 114, 103, 101, 114] : List UInt8)) = false := beq_eq_false_iff_ne.mpr c14
                            have c14b1 : (a0.toList != ([99, 104, 97, 114, 103, 101, 114] : List UInt8)) = true := bne_iff_ne.mpr c14
                            obtain rfl := Option.some.inj H
                            go_enter Try.func67, Try.ntmps67
                            go_wp2
                            go_ret
                            exact ⟨by first | rfl | (simp; done) | (simp [*]; done), by repeat (first | exact Drawn0.refl _ | apply Drawn0.step)⟩
end Go.Proofs.Ytpdmnineampimaa.Q
