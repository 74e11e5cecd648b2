import Derived.Test.YtpdmnineampimaaYe
import Derived.Test.YtpdmnineampimaaYQx11
import Derived.Test.YtpdmnineampimaaYQx24
set_option linter.unusedVariables false
set_option linter.unusedSimpArgs false
namespace Go.Proofs.Ytpdmnineampimaa.Q
open Go.RowKit Go.Proofs.YtpdmnineampimaaW.PrintWords Go.Proofs.YtpdmnineampimaaW.PrintLast Go.Proofs.YtpdmnineampimaaW.PrintMore
attribute [local go_sem] max2_int min2_int max_two min_two max_three min_three max_four min_four
def flatA : List S55 → List Value
  | [] => []
  | x :: l => .int .i64 x.f0 :: .int .i64 x.f1 :: .int .i64 x.f2 :: flatA l
theorem flatA_length : ∀ l : List S55, (flatA l).length = l.length * 3
  | [] => rfl
  | x :: l => by simp only [flatA, List.length_cons, flatA_length l]; omega
def fld (x : S55) : Nat → Int
  | 0 => x.f0
  | 1 => x.f1
  | _ => x.f2
def setF (x : S55) : Nat → Int → S55
  | 0, v => ⟨v, x.f1, x.f2⟩
  | 1, v => ⟨x.f0, v, x.f2⟩
  | _, v => ⟨x.f0, x.f1, v⟩
theorem flatA_get : ∀ (l : List S55) (a q : Nat), a < l.length → q < 3 → (flatA l)[a * 3 + q]? = some (.int .i64 (fld (rd_T55 l a) q))
  | [], a, q, h, _ => by simp at h
  | x :: l, 0, q, _, hq => by
    match q, hq with
    | 0, _ => rfl
    | 1, _ => rfl
    | 2, _ => rfl
  | x :: l, a + 1, q, h, hq => by
    have e : (a + 1) * 3 + q = (a * 3 + q) + 1 + 1 + 1 := by omega
    rw [e]
    simp only [flatA, List.getElem?_cons_succ]
    rw [flatA_get l a q (by simpa using h) hq]
    have e2 : rd_T55 (x :: l) ((a + 1 : Nat) : Int) = rd_T55 l (a : Int) := by simp [rd_T55]
    rw [e2]
theorem flatA_set : ∀ (l : List S55) (a q : Nat) (v : Int), a < l.length → q < 3 → (flatA l).set (a * 3 + q) (.int .i64 v) = flatA (l.set a (setF (rd_T55 l a) q v))
  | [], a, q, v, h, _ => by simp at h
  | x :: l, 0, q, v, _, hq => by
    match q, hq with
    | 0, _ => rfl
    | 1, _ => rfl
    | 2, _ => rfl
  | x :: l, a + 1, q, v, h, hq => by
    have e : (a + 1) * 3 + q = (a * 3 + q) + 1 + 1 + 1 := by omega
    have e2 : rd_T55 (x :: l) ((a + 1 : Nat) : Int) = rd_T55 l (a : Int) := by simp [rd_T55]
    rw [e, e2]
    simp only [flatA, List.set_cons_succ]
    rw [flatA_set l a q v (by simpa using h) hq]
theorem flatA_zero : ∀ n : Nat, flatA (List.replicate n z55) = List.replicate (n * 3) (.int .i64 0)
  | 0 => rfl
  | n + 1 => by
    have e : (n + 1) * 3 = n * 3 + 1 + 1 + 1 := by omega
    rw [e, List.replicate_succ, List.replicate_succ, List.replicate_succ, List.replicate_succ, flatA, flatA_zero n]; rfl
theorem flatA_seg : ∀ (l : List S55) (j : Nat) (p : S55), l[j]? = some p → ((flatA l).drop (j * 3)).take 3 = [.int .i64 p.f0, .int .i64 p.f1, .int .i64 p.f2]
  | [], j, p, h => by simp at h
  | x :: l, 0, p, h => by
    simp only [List.getElem?_cons_zero, Option.some.injEq] at h
    subst h; rfl
  | x :: l, j + 1, p, h => by
    have e : (j + 1) * 3 = j * 3 + 1 + 1 + 1 := by omega
    rw [e]
    simp only [flatA, List.drop_succ_cons]
    exact flatA_seg l j p (by simpa using h)
theorem R_of_flat {W : World} {go base : Nat} {ok : Nat → Prop} {l : List S55} (hg : W.heap[go]? = some (.cells (flatA l).toArray 55 (0, 0))) (hb : base ≤ go) (hok : ok go) (hl : l.length ≤ maxLen) :
    Kd.R k55 55 W base ok (.slice (some ⟨go, 0, none⟩) l.length l.length) l := by
  refine ⟨fun k hk => ?_, flatA l, ⟨?_, .inr ⟨go, l.length, (flatA l).toArray, rfl, hb, hg, Nat.le_refl _, hl, ?_, ?_⟩⟩, ?_, ?_⟩
  · have : go = k := by simpa [Value.ownBlock] using hk
    subst this; exact hok
  · exact flatA_length l
  · rw [List.size_toArray]; exact flatA_length l
  · show (flatA l).toArray.toList.take (l.length * 3) = flatA l
    rw [← flatA_length l]; simp
  · exact flatA_length l
  · intro j p hp
    show Kd.M k55 _ _ _ _ (((flatA l).drop (j * 3)).take 3)
    rw [flatA_seg l j p hp]
    exact k55_mkM _ _ _ p
theorem bits_one (y : Int) (h0 : 0 ≤ y) (h1 : y < 8) : Go.bits .and .i64 y 1 = y % 2 := by
  obtain ⟨n, rfl⟩ := Int.eq_ofNat_of_zero_le h0
  have : n < 8 := by omega
  match n, this with
  | 0, _ => decide
  | 1, _ => decide
  | 2, _ => decide
  | 3, _ => decide
  | 4, _ => decide
  | 5, _ => decide
  | 6, _ => decide
  | 7, _ => decide
def bq (x : S55) (ph a : Int) : Nat → S55
  | 0 => x
  | q + 1 => if bitOf ph q then setF (bq x ph a q) q (wrap64 (fld (bq x ph a q) q + a)) else bq x ph a q
theorem bq_three (x : S55) (ph a : Int) : bq x ph a 3 = bump x ph a := by
  unfold bump
  simp only [bq]
  cases bitOf ph 0 <;> cases bitOf ph 1 <;> cases bitOf ph 2 <;> rfl
theorem bit_eq (ph : Int) (q : Nat) (h0 : 1 ≤ ph) (h1 : ph ≤ 7) : (Go.bits .and .i64 (ph / 2 ^ q) 1 == 1) = bitOf ph q := by
  have h2 : 0 ≤ ph / 2 ^ q := Int.ediv_nonneg (by omega) (Int.pow_nonneg (by decide))
  have h3 : ph / 2 ^ q ≤ ph := Int.ediv_le_self _ (by omega)
  rw [bits_one _ h2 (by omega)]
  rfl
def badA (n : Int) : Bool := decide (n < 0) || decide (80 < n)
theorem wrong_calls (n : Int) (w : World) : Calls Try.prog 31 #[.int .i64 n] w fun e w' => e = .returned (.bool (badA n)) ∧ w' = w := by
  by_cases h : n < 0
  · have e : badA n = true := by simp [badA, h]
    rw [e]
    have h1 : decide (n < 0) = true := decide_eq_true h
    go_enter Try.func31, Try.ntmps31
    go_wp2
    go_ret
    exact ⟨rfl, rfl⟩
  · have e : badA n = decide (n > 80) := by simp [badA, h]
    rw [e]
    have h1 : decide (n < 0) = false := decide_eq_false h
    go_enter Try.func31, Try.ntmps31
    go_wp2
    go_ret
    exact ⟨rfl, rfl⟩
theorem any_take_succ (l : List Int) (k : Nat) (h : k < l.length) : (l.take (k + 1)).any badA = ((l.take k).any badA || badA (rd l k)) := by
  rw [List.take_succ_eq_append_getElem h, List.any_append]
  simp [rd, List.getD_eq_getElem?_getD, h]
theorem indexW_calls (A : Option Addr) (c : Nat) (l : List Int) (w : World) (hC : (Kd.int .i64).C w A l.length l) (hl : l.length ≤ 1000000) :
    Calls Try.prog 50 #[.slice A l.length c, .func (.func 31) #[] #[]] w fun e w' => ∃ i : Int, e = .returned (.int .i64 i) ∧ decide (i ≥ 0) = l.any badA ∧ w' = w := by
  go_enter Try.func50, Try.ntmps50
  go_wp2_with fail
  go_loopw [8] (fun i wr => ∃ k : Nat, k ≤ l.length ∧ i = .int .i64 k ∧ wr = w ∧ (l.take k).any badA = false) (fun i _ => l.length - (intOf i).toNat)
  case atStart => exact ⟨0, by omega, rfl, rfl, by simp⟩
  case round =>
    obtain ⟨k, hk, rfl, rfl, hn⟩ := hrel
    by_cases hlt : k < l.length
    · obtain ⟨ad, hAd, hcell⟩ := Kd.at_int hC (k : Int) (by omega) (by omega)
      subst hAd
      have hs := Lib.hid (any_take_succ l k hlt)
      have HN := Lib.hid hn
      have hd : ∀ m, k + 1 ≤ m → (l.take (k + 1)).any badA = true → l.any badA = true := fun _ _ h => by
        rw [List.any_eq_true] at h ⊢
        obtain ⟨x, hx, hb⟩ := h
        exact ⟨x, List.mem_of_mem_take hx, hb⟩
      have HD := Lib.hid hd
      clear hn hd
      simp only [Int.toNat_natCast] at hcell
      generalize rd l (k : Int) = n at *
      go_wp2_with fail
      refine (wrong_calls n _).mono ?_
      rintro e w' ⟨rfl, rfl⟩
      cases hb : badA n
      · have HB := Lib.hid hb
        clear hb
        go_wp2_with fail
        go_roundw
        case rel => exact ⟨k + 1, by omega, by go_num, by first | rfl | trivial, by rw [hs.out, HN.out, HB.out]; rfl⟩
        case measure => simp [intOf]; omega
      · have HB := Lib.hid hb
        clear hb
        go_wp2_with fail
        go_ret
        exact ⟨_, rfl, by rw [HD.out _ (Nat.le_refl _) (by rw [hs.out, HN.out, HB.out]; rfl)]; simp, rfl⟩
    · obtain rfl : k = l.length := by omega
      rw [List.take_length] at hn
      have HN := Lib.hid hn
      clear hn
      go_wp2_with fail
      go_ret
      exact ⟨_, rfl, by rw [HN.out]; rfl, rfl⟩
theorem containsW_calls (A : Option Addr) (c : Nat) (l : List Int) (w : World) (hC : (Kd.int .i64).C w A l.length l) (hl : l.length ≤ 1000000) :
    Calls Try.prog 32 #[.slice A l.length c, .func (.func 31) #[] #[]] w fun e w' => e = .returned (.bool (l.any badA)) ∧ w' = w := by
  go_enter Try.func32, Try.ntmps32
  go_wp2_with fail
  refine (indexW_calls A c l w hC hl).mono ?_
  rintro e w' ⟨i, rfl, hi, rfl⟩
  have HI := Lib.hid hi
  clear hi
  go_wp2_with fail
  go_ret
  exact ⟨by rw [← HI.out]; rfl, rfl⟩
theorem loads_len (A0_0 : Option Addr) (c0_0 : Nat) (l0_0 : List (S48)) (A0_1 : Option Addr) (c0_1 : Nat) (l0_1 : List (S62)) (A0_2 : Option Addr) (c0_2 : Nat) (l0_2 : List (S84)) (A0_3 : Option Addr) (c0_3 : Nat) (l0_3 : List (S42)) (A0_4 : Option Addr) (c0_4 : Nat) (l0_4 : List (S87)) (A1 : Option Addr) (c1 : Nat) (l1 : List Int) (w : World) (hr0_0 : Kd.C k48 w A0_0 l0_0.length l0_0) (hc0_0 : l0_0.length ≤ c0_0) (hr0_1 : Kd.C k62 w A0_1 l0_1.length l0_1) (hc0_1 : l0_1.length ≤ c0_1) (hr0_2 : Kd.C k84 w A0_2 l0_2.length l0_2) (hc0_2 : l0_2.length ≤ c0_2) (hr0_3 : Kd.C k42 w A0_3 l0_3.length l0_3) (hc0_3 : l0_3.length ≤ c0_3) (hr0_4 : Kd.C k87 w A0_4 l0_4.length l0_4) (hc0_4 : l0_4.length ≤ c0_4) (hr1 : Kd.C (Kd.int .i64) w A1 l1.length l1) (h : l1.length ≠ l0_3.length) :
    Calls Try.prog 14 #[.agg #[.slice A0_0 l0_0.length c0_0, .slice A0_1 l0_1.length c0_1, .slice A0_2 l0_2.length c0_2, .slice A0_3 l0_3.length c0_3, .slice A0_4 l0_4.length c0_4], .slice A1 l1.length c1] w fun e w' => e = .returned (.tuple #[.slice none 0 0, .int .i64 1]) ∧ Below w.heap.size w w' := by
  have hd : (l1.length == l0_3.length) = false := by simpa using h
  have hd2 : (l1.length != l0_3.length) = true := by simpa using h
  have hd3 : ((l1.length : Int) != (l0_3.length : Int)) = true := by simp; omega
  have hd4 : ((l1.length : Int) == (l0_3.length : Int)) = false := by simp; omega
  go_enter Try.func14, Try.ntmps14
  go_wp2_with fail
  exact bodyPost_ret (v := .tuple #[.slice none 0 0, .int .i64 1]) (by simp [results, Try.results14, go_sem]) rfl ⟨rfl, (below_alloc (below_alloc (Below.refl _ w) (.cells #[.slice A0_0 l0_0.length c0_0, .slice A0_1 l0_1.length c0_1, .slice A0_2 l0_2.length c0_2, .slice A0_3 l0_3.length c0_3, .slice A0_4 l0_4.length c0_4] 28)) (.cells #[.slice A1 l1.length c1] 29))⟩
theorem loads_bad (A0_0 : Option Addr) (c0_0 : Nat) (l0_0 : List (S48)) (A0_1 : Option Addr) (c0_1 : Nat) (l0_1 : List (S62)) (A0_2 : Option Addr) (c0_2 : Nat) (l0_2 : List (S84)) (A0_3 : Option Addr) (c0_3 : Nat) (l0_3 : List (S42)) (A0_4 : Option Addr) (c0_4 : Nat) (l0_4 : List (S87)) (A1 : Option Addr) (c1 : Nat) (l1 : List Int) (w : World) (hr0_0 : Kd.C k48 w A0_0 l0_0.length l0_0) (hc0_0 : l0_0.length ≤ c0_0) (hr0_1 : Kd.C k62 w A0_1 l0_1.length l0_1) (hc0_1 : l0_1.length ≤ c0_1) (hr0_2 : Kd.C k84 w A0_2 l0_2.length l0_2) (hc0_2 : l0_2.length ≤ c0_2) (hr0_3 : Kd.C k42 w A0_3 l0_3.length l0_3) (hc0_3 : l0_3.length ≤ c0_3) (hr0_4 : Kd.C k87 w A0_4 l0_4.length l0_4) (hc0_4 : l0_4.length ≤ c0_4) (hr1 : Kd.C (Kd.int .i64) w A1 l1.length l1) (h : l1.length = l0_3.length) (h16 : l1.length ≤ 1000000) (hb : l1.any badA = true) :
    Calls Try.prog 14 #[.agg #[.slice A0_0 l0_0.length c0_0, .slice A0_1 l0_1.length c0_1, .slice A0_2 l0_2.length c0_2, .slice A0_3 l0_3.length c0_3, .slice A0_4 l0_4.length c0_4], .slice A1 l1.length c1] w fun e w' => e = .returned (.tuple #[.slice none 0 0, .int .i64 1]) ∧ Below w.heap.size w w' := by
  have hd : (l1.length == l0_3.length) = true := by simpa using h
  have hd2 : (l1.length != l0_3.length) = false := by simpa using h
  have hd3 : ((l1.length : Int) != (l0_3.length : Int)) = false := by simp; omega
  have hd4 : ((l1.length : Int) == (l0_3.length : Int)) = true := by simp; omega
  have HBD := Lib.hid hb
  have HBB := Lib.hid (below_alloc (below_alloc (Below.refl _ w) (.cells #[.slice A0_0 l0_0.length c0_0, .slice A0_1 l0_1.length c0_1, .slice A0_2 l0_2.length c0_2, .slice A0_3 l0_3.length c0_3, .slice A0_4 l0_4.length c0_4] 28)) (.cells #[.slice A1 l1.length c1] 29))
  clear hb h
  go_enter Try.func14, Try.ntmps14
  go_wp2_with fail
  refine (containsW_calls A1 c1 l1 _ (Kd.C_below hr1 HBB.out) h16).mono ?_
  rintro e w1 ⟨rfl, rfl⟩
  rw [HBD.out]
  go_wp2_with fail
  exact bodyPost_ret (v := .tuple #[.slice none 0 0, .int .i64 1]) (by simp [results, Try.results14, go_sem]) rfl ⟨rfl, HBB.out⟩
theorem loads_inv (A0_0 : Option Addr) (c0_0 : Nat) (l0_0 : List (S48)) (A0_1 : Option Addr) (c0_1 : Nat) (l0_1 : List (S62)) (A0_2 : Option Addr) (c0_2 : Nat) (l0_2 : List (S84)) (A0_3 : Option Addr) (c0_3 : Nat) (l0_3 : List (S42)) (A0_4 : Option Addr) (c0_4 : Nat) (l0_4 : List (S87)) (A1 : Option Addr) (c1 : Nat) (l1 : List Int) (w : World) (hr0_0 : Kd.C k48 w A0_0 l0_0.length l0_0) (hc0_0 : l0_0.length ≤ c0_0) (hr0_1 : Kd.C k62 w A0_1 l0_1.length l0_1) (hc0_1 : l0_1.length ≤ c0_1) (hr0_2 : Kd.C k84 w A0_2 l0_2.length l0_2) (hc0_2 : l0_2.length ≤ c0_2) (hr0_3 : Kd.C k42 w A0_3 l0_3.length l0_3) (hc0_3 : l0_3.length ≤ c0_3) (hr0_4 : Kd.C k87 w A0_4 l0_4.length l0_4) (hc0_4 : l0_4.length ≤ c0_4) (hr1 : Kd.C (Kd.int .i64) w A1 l1.length l1) (h : l1.length = l0_3.length) (h16 : l1.length ≤ 1000000) (hb : l1.any badA = false) (hv : site_Valid.f l0_0 l0_1 l0_2 l0_3 l0_4 = some false) :
    Calls Try.prog 14 #[.agg #[.slice A0_0 l0_0.length c0_0, .slice A0_1 l0_1.length c0_1, .slice A0_2 l0_2.length c0_2, .slice A0_3 l0_3.length c0_3, .slice A0_4 l0_4.length c0_4], .slice A1 l1.length c1] w fun e w' => e = .returned (.tuple #[.slice none 0 0, .int .i64 1]) ∧ Below w.heap.size w w' := by
  have hd : (l1.length == l0_3.length) = true := by simpa using h
  have hd2 : (l1.length != l0_3.length) = false := by simpa using h
  have hd3 : ((l1.length : Int) != (l0_3.length : Int)) = false := by simp; omega
  have hd4 : ((l1.length : Int) == (l0_3.length : Int)) = true := by simp; omega
  have HBD := Lib.hid hb
  have HBB := Lib.hid (below_alloc (below_alloc (Below.refl _ w) (.cells #[.slice A0_0 l0_0.length c0_0, .slice A0_1 l0_1.length c0_1, .slice A0_2 l0_2.length c0_2, .slice A0_3 l0_3.length c0_3, .slice A0_4 l0_4.length c0_4] 28)) (.cells #[.slice A1 l1.length c1] 29))
  have HV := Lib.hid hv
  clear hb h hv
  go_enter Try.func14, Try.ntmps14
  go_wp2_with fail
  refine (containsW_calls A1 c1 l1 _ (Kd.C_below hr1 HBB.out) h16).mono ?_
  rintro e w1 ⟨rfl, rfl⟩
  rw [HBD.out]
  go_wp2_with fail
  refine (site_Valid.calls A0_0 c0_0 l0_0 A0_1 c0_1 l0_1 A0_2 c0_2 l0_2 A0_3 c0_3 l0_3 A0_4 c0_4 l0_4 false _ (Kd.C_below hr0_0 HBB.out) hc0_0 (Kd.C_below hr0_1 HBB.out) hc0_1 (Kd.C_below hr0_2 HBB.out) hc0_2 (Kd.C_below hr0_3 HBB.out) hc0_3 (Kd.C_below hr0_4 HBB.out) hc0_4 HV.out).mono ?_
  rintro e w2 ⟨rfl, hb2⟩
  have HB2 := Lib.hid (below_step HBB.out hb2)
  clear hb2
  go_wp2_with fail
  exact bodyPost_ret (v := .tuple #[.slice none 0 0, .int .i64 1]) (by simp [results, Try.results14, go_sem]) rfl ⟨rfl, HB2.out⟩
theorem bqF {x : S55} {ph a : Int} {q : Nat} (h : bitOf ph q = false) : bq x ph a (q + 1) = bq x ph a q := by simp [bq, h]
attribute [local go_sem] Oper.semAt_some
theorem info_arr : (Try.prog.info? 55).map (fun i => (i.zero, i.size, i.bytes)) = some (some (.agg #[.int .i64 0, .int .i64 0, .int .i64 0]), 3, 24) := by kernel_rfl
theorem made_zero (n : Nat) : madeCells (.agg #[.int .i64 0, .int .i64 0, .int .i64 0] : Value).cells (n * 3) = (flatA (List.replicate n z55)).toArray := by
  rw [flatA_zero]
  apply Array.ext
  · simp [size_madeCells]
  · intro i h1 h2
    have h3 : i % 3 < 3 := Nat.mod_lt _ (by decide)
    simp only [madeCells, Array.getElem_map, Array.getElem_range, Value.cells, List.size_toArray, List.length_cons, List.length_nil, List.getElem_toArray, List.getElem_replicate]
    match hm : i % 3, h3 with
    | 0, _ => rfl
    | 1, _ => rfl
    | 2, _ => rfl
theorem make_zero (n : Nat) (hn : n ≤ 16) (W : World) : (Instr.makeSlice 35 (.int .i64 n) (.int .i64 n)).run Try.prog W = .ok (.slice (some ⟨W.heap.size, 0, none⟩) n n) (W.alloc (.cells (flatA (List.replicate n z55)).toArray 55)) := by
  obtain ⟨i0, hi, hz0, hz1, hz2⟩ := info_parts info_arr
  have h := run_make (P := Try.prog) W 35 55 i0 _ Try.underlying35 hi hz0 .i64 .i64 (n : Int) (n : Int) (by omega) (by omega) (by rw [hz2]; omega) (by omega)
  rw [hz1] at h
  simp only [Int.toNat_natCast] at h
  rw [h, made_zero]
def Has (W : World) (L : List (Nat × Obj)) : Prop := ∀ p ∈ L, W.heap[p.1]? = some p.2
theorem Has.turns {T : Nat → Prop} {W W' : World} {L : List (Nat × Obj)} (h : Has W L) (ht : Turns T W W') (hT : ∀ p ∈ L, ¬ T p.1) : Has W' L :=
  fun p hp => (ht.block _ (Array.getElem?_eq_some_iff.1 (h p hp)).1 (hT p hp)).trans (h p hp)
theorem Has.lt {W : World} {L : List (Nat × Obj)} (h : Has W L) : ∀ p ∈ L, p.1 < W.heap.size := fun p hp => (Array.getElem?_eq_some_iff.1 (h p hp)).1
def cd (D : Nat) : Deferred := { target := .collected D, args := #[] }
theorem leaves_collected {F : Fence} {n : Nat} {P : Program} {fn : Func} {tmps : Array Value} {R : Ending → World → Prop} : ∀ (Ds : List Nat) (w : World), (∀ D ∈ Ds, w.heap[D]? = some (.deferred (some []))) → Ds.Nodup →
    (∀ w', Turns (fun k => k ∈ Ds) w w' → ∃ v, (results fn tmps).run P w' = .ok v w' ∧ R (.returned v) w') → LeavesInM F n P fn tmps R (Ds.map cd) .returning w
  | [], w, _, _, h => h w (Turns.refl _ _)
  | D :: Ds, w, hD, hN, h => by
    have h1 := hD D (by simp)
    have hN' := List.nodup_cons.1 hN
    refine ⟨by simp, .inl ⟨_, _, rfl, run_takeDeferred h1, ?_⟩⟩
    refine leaves_collected Ds _ (fun D' hD' => (World.putObj_heap_other (fun e => hN'.1 (by rw [← e]; exact hD'))).trans (hD D' (by simp [hD']))) hN'.2 (fun w' ht => h w' ?_)
    exact (Turns.putObj (fun k => k ∈ D :: Ds) w D (.deferred none) (by simp)).trans (ht.mono (fun k hk => by simp [hk]))
theorem FineS.ph {l0 : List S48} {l1 : List S62} {l2 : List S84} {l3 : List S42} {l4 : List S87} (h : FineS l0 l1 l2 l3 l4) {a : Int} (h0 : 0 ≤ a) (h1 : a < l3.length) : 1 ≤ (rd_T42 l3 a).f2 ∧ (rd_T42 l3 a).f2 ≤ 7 := by
  obtain ⟨n, rfl⟩ := Int.eq_ofNat_of_zero_le h0
  have := h.chg n (by omega)
  unfold chgB at this
  simp only [Bool.and_eq_true, Bool.or_eq_true, decide_eq_true_eq, ins_iff] at this
  omega
theorem loadsTo_len (l0 : List S48) (l3 : List S42) (amps : List Int) : ∀ i, (loadsTo l0 l3 amps i).length = l0.length
  | 0 => by simp [loadsTo]
  | i + 1 => by
    have : ∀ (xs : List Int) (ph a : Int) (out : List S55), (xs.foldl (bumpAt ph a) out).length = out.length := by
      intro xs
      induction xs with
      | nil => intro ph a out; rfl
      | cons y ys ih => intro ph a out; rw [List.foldl_cons, ih]; simp [bumpAt]
    rw [loadsTo, this, loadsTo_len l0 l3 amps i]
theorem fold_len : ∀ (xs : List Int) (ph a : Int) (out : List S55), (xs.foldl (bumpAt ph a) out).length = out.length
  | [], _, _, _ => rfl
  | y :: ys, ph, a, out => by rw [List.foldl_cons, fold_len ys]; simp [bumpAt]
set_option maxRecDepth 100000 in
set_option maxHeartbeats 4000000 in
theorem loads_main (A0_0 : Option Addr) (c0_0 : Nat) (l0_0 : List (S48)) (A0_1 : Option Addr) (c0_1 : Nat) (l0_1 : List (S62)) (A0_2 : Option Addr) (c0_2 : Nat) (l0_2 : List (S84)) (A0_3 : Option Addr) (c0_3 : Nat) (l0_3 : List (S42)) (A0_4 : Option Addr) (c0_4 : Nat) (l0_4 : List (S87)) (A1 : Option Addr) (c1 : Nat) (l1 : List Int) (w : World) (hr0_0 : Kd.C k48 w A0_0 l0_0.length l0_0) (hc0_0 : l0_0.length ≤ c0_0) (hr0_1 : Kd.C k62 w A0_1 l0_1.length l0_1) (hc0_1 : l0_1.length ≤ c0_1) (hr0_2 : Kd.C k84 w A0_2 l0_2.length l0_2) (hc0_2 : l0_2.length ≤ c0_2) (hr0_3 : Kd.C k42 w A0_3 l0_3.length l0_3) (hc0_3 : l0_3.length ≤ c0_3) (hr0_4 : Kd.C k87 w A0_4 l0_4.length l0_4) (hc0_4 : l0_4.length ≤ c0_4) (hr1 : Kd.C (Kd.int .i64) w A1 l1.length l1) (h : l1.length = l0_3.length) (hb : l1.any badA = false) (hv : site_Valid.f l0_0 l0_1 l0_2 l0_3 l0_4 = some true) :
    Calls Try.prog 14 #[.agg #[.slice A0_0 l0_0.length c0_0, .slice A0_1 l0_1.length c0_1, .slice A0_2 l0_2.length c0_2, .slice A0_3 l0_3.length c0_3, .slice A0_4 l0_4.length c0_4], .slice A1 l1.length c1] w fun e w' => ∃ v, e = .returned (.tuple #[v, .int .i64 0]) ∧ Kd.R k55 55 w' w.heap.size (fun _ => True) v (loadsV l0_0 l0_3 l1) ∧ Below w.heap.size w w' := by
  have hd : (l1.length == l0_3.length) = true := by simpa using h
  have hd2 : (l1.length != l0_3.length) = false := by simpa using h
  have hd3 : ((l1.length : Int) != (l0_3.length : Int)) = false := by simp; omega
  have hd4 : ((l1.length : Int) == (l0_3.length : Int)) = true := by simp; omega
  have HBD := Lib.hid hb
  have HBB := Lib.hid (below_alloc (below_alloc (Below.refl _ w) (.cells #[.slice A0_0 l0_0.length c0_0, .slice A0_1 l0_1.length c0_1, .slice A0_2 l0_2.length c0_2, .slice A0_3 l0_3.length c0_3, .slice A0_4 l0_4.length c0_4] 28)) (.cells #[.slice A1 l1.length c1] 29))
  have HV := Lib.hid hv
  have HF := Lib.hid (valid_fine (site_Valid.some hv))
  have hn0 := HF.out.n0
  have hn3 := HF.out.n3
  have h16 : l1.length ≤ 16 := by omega
  have HH := Lib.hid h
  clear hb hv h
  refine (callsIn_wide (n := 0)).1 ?_
  refine callsIn_of_wp_marks Try.func14 rfl trivial ?_ rfl
  simp only [Try.ntmps14, List.size_toArray, List.length_cons, List.length_nil, Nat.reduceAdd, Nat.reduceSub, Array.replicate_succ, Array.replicate_zero, List.push_toArray, List.append_toArray, List.nil_append, List.cons_append]
  gi_wp2
  refine ⟨trivial, rfl, callsIn_wide.2 ((containsW_calls A1 c1 l1 _ (Kd.C_below hr1 HBB.out) (by omega)).mono ?_)⟩
  rintro e w1 ⟨rfl, rfl⟩
  rw [HBD.out]
  gi_wp2
  refine ⟨trivial, rfl, callsIn_wide.2 ((site_Valid.calls A0_0 c0_0 l0_0 A0_1 c0_1 l0_1 A0_2 c0_2 l0_2 A0_3 c0_3 l0_3 A0_4 c0_4 l0_4 true _ (Kd.C_below hr0_0 HBB.out) hc0_0 (Kd.C_below hr0_1 HBB.out) hc0_1 (Kd.C_below hr0_2 HBB.out) hc0_2 (Kd.C_below hr0_3 HBB.out) hc0_3 (Kd.C_below hr0_4 HBB.out) hc0_4 HV.out).mono ?_)⟩
  rintro e w2 ⟨rfl, hb2⟩
  have hB2 := below_step HBB.out hb2
  have x0 : w2.heap[w.heap.size]? = some (.cells #[.slice A0_0 l0_0.length c0_0, .slice A0_1 l0_1.length c0_1, .slice A0_2 l0_2.length c0_2, .slice A0_3 l0_3.length c0_3, .slice A0_4 l0_4.length c0_4] 28 (0, 0)) := (hb2.block _ (by simp; omega)).trans ((Below.heap_alloc _ _ _ (by simp)).trans (heap_alloc_new w _))
  have x1 : w2.heap[w.heap.size + 1]? = some (.cells #[.slice A1 l1.length c1] 29 (0, 0)) := (hb2.block _ (by simp)).trans (by simpa using heap_alloc_new (w.alloc (.cells #[.slice A0_0 l0_0.length c0_0, .slice A0_1 l0_1.length c0_1, .slice A0_2 l0_2.length c0_2, .slice A0_3 l0_3.length c0_3, .slice A0_4 l0_4.length c0_4] 28)) (.cells #[.slice A1 l1.length c1] 29))
  have b0 := blk_cell x0 0
  have b3 := blk_cell x0 3
  simp only [List.getElem?_toArray, List.getElem?_cons_zero, List.getElem?_cons_succ] at b0 b3
  have hmk := make_zero l0_0.length hn0.2
  have hz2 := hB2.size
  have HX := Lib.hid (And.intro hB2 (And.intro x0 x1))
  have hlt2 : w.heap.size + 1 < w2.heap.size := (Array.getElem?_eq_some_iff.1 x1).1
  have b3' : ∀ o1 o2 : Obj, ((w2.alloc o1).alloc o2).cell? ⟨w.heap.size, 3, none⟩ = some (.slice A0_3 l0_3.length c0_3) := fun o1 o2 => ((below_alloc (below_alloc (Below.refl w2.heap.size w2) o1) o2).cell (p := ⟨w.heap.size, 3, none⟩) (show w.heap.size < _ by omega)).trans b3
  clear hB2 x0 x1 hb2 HV
  gi_wp2
  obtain ⟨W3, hW3⟩ : ∃ W3, (w2.alloc (.cells (flatA (List.replicate l0_0.length z55)).toArray 55)).alloc (.cells #[.slice (some ⟨w2.heap.size, 0, none⟩) l0_0.length l0_0.length] 35) = W3 := ⟨_, rfl⟩
  have hB3 : Below w.heap.size w W3 := by rw [← hW3]; exact below_alloc (below_alloc HX.out.1 _) _
  have hsz3 : w2.heap.size + 2 ≤ W3.heap.size := by rw [← hW3]; simp
  have hgo3 : W3.heap[w2.heap.size]? = some (.cells (flatA (loadsTo l0_0 l0_3 l1 0)).toArray 55 (0, 0)) := by rw [← hW3]; exact (Below.heap_alloc _ _ _ (by simp)).trans (heap_alloc_new w2 _)
  have hH3 : Has W3 [(w.heap.size, .cells #[.slice A0_0 l0_0.length c0_0, .slice A0_1 l0_1.length c0_1, .slice A0_2 l0_2.length c0_2, .slice A0_3 l0_3.length c0_3, .slice A0_4 l0_4.length c0_4] 28 (0, 0)), (w.heap.size + 1, .cells #[.slice A1 l1.length c1] 29 (0, 0)), (w2.heap.size + 1, .cells #[.slice (some ⟨w2.heap.size, 0, none⟩) l0_0.length l0_0.length] 35 (0, 0))] := by
    rw [← hW3]
    intro p hp
    simp only [List.mem_cons, List.not_mem_nil, or_false] at hp
    rcases hp with rfl | rfl | rfl
    · exact (Below.heap_alloc _ _ _ (by simp; omega)).trans ((Below.heap_alloc _ _ _ (show w.heap.size < _ by omega)).trans HX.out.2.1)
    · exact (Below.heap_alloc _ _ _ (by simp; omega)).trans ((Below.heap_alloc _ _ _ (show w.heap.size + 1 < _ by omega)).trans HX.out.2.2)
    · have := heap_alloc_new (w2.alloc (.cells (flatA (List.replicate l0_0.length z55)).toArray 55)) (.cells #[.slice (some ⟨w2.heap.size, 0, none⟩) l0_0.length l0_0.length] 35)
      simpa using this
  rw [hW3]
  clear hW3 hmk b0 b3 b3'
  refine wpIn_loop (fun a wr => ∃ (k : Nat) (Ds : List Nat) (u8 u9 u10 u11 u12 u37 u38 u39 u40 u41 u42 u43 u44 u45 u46 u47 u48 u49 u50 u51 u52 u53 u54 u55 u56 u57 u58 u59 u60 u61 u62 u63 u64 u65 u66 u67 u68 u69 u70 u71 u72 : Value), k ≤ l0_3.length ∧ (Has wr [(w.heap.size, .cells #[.slice A0_0 l0_0.length c0_0, .slice A0_1 l0_1.length c0_1, .slice A0_2 l0_2.length c0_2, .slice A0_3 l0_3.length c0_3, .slice A0_4 l0_4.length c0_4] 28 (0, 0)), (w.heap.size + 1, .cells #[.slice A1 l1.length c1] 29 (0, 0)), (w2.heap.size + 1, .cells #[.slice (some ⟨w2.heap.size, 0, none⟩) l0_0.length l0_0.length] 35 (0, 0))] ∧ wr.heap[w2.heap.size]? = some (.cells (flatA (loadsTo l0_0 l0_3 l1 k)).toArray 55 (0, 0)) ∧ Below w.heap.size w wr ∧ w2.heap.size + 2 ≤ wr.heap.size ∧ (∀ D ∈ Ds, w2.heap.size + 2 ≤ D ∧ wr.heap[D]? = some (.deferred (some []))) ∧ Ds.Nodup) ∧ a = ⟨#[.agg #[.slice A0_0 l0_0.length c0_0, .slice A0_1 l0_1.length c0_1, .slice A0_2 l0_2.length c0_2, .slice A0_3 l0_3.length c0_3, .slice A0_4 l0_4.length c0_4], .slice A1 l1.length c1, .pointer (some ⟨w.heap.size, 0, none⟩), .pointer (some ⟨w.heap.size + 1, 0, none⟩), .slice none 0 0, .int .i64 0, .func (.func 31) #[] #[], .pointer (some ⟨w2.heap.size + 1, 0, none⟩), u8, u9, u10, u11, u12, .slice A1 l1.length c1, .int .i64 l1.length, .pointer (some ⟨w.heap.size, 3, none⟩), .slice A0_3 l0_3.length c0_3, .int .i64 l0_3.length, .bool false, .bool false, .slice A1 l1.length c1, .func (.func 31) #[] #[], .bool false, .bool false, .bool false, .agg #[.slice A0_0 l0_0.length c0_0, .slice A0_1 l0_1.length c0_1, .slice A0_2 l0_2.length c0_2, .slice A0_3 l0_3.length c0_3, .slice A0_4 l0_4.length c0_4], .bool true, .bool false, .bool false, .pointer (some ⟨w.heap.size, 0, none⟩), .slice A0_0 l0_0.length c0_0, .int .i64 l0_0.length, .slice (some ⟨w2.heap.size, 0, none⟩) l0_0.length l0_0.length, .pointer (some ⟨w.heap.size, 3, none⟩), .slice A0_3 l0_3.length c0_3, .int .i64 l0_3.length, .int .i64 k, u37, u38, u39, u40, u41, u42, u43, u44, u45, u46, u47, u48, u49, u50, u51, u52, u53, u54, u55, u56, u57, u58, u59, u60, u61, u62, u63, u64, u65, u66, u67, u68, u69, u70, u71, u72], Ds.map cd⟩) (fun a _ => l0_3.length - (intOf (a.tmps.getD 36 undef)).toNat) ?start ?round
  case start => exact ⟨0, [], _, _, _, _, _, _, _, _, _, _, _, _, _, _, _, _, _, _, _, _, _, _, _, _, _, _, _, _, _, _, _, _, _, _, _, _, _, _, _, _, _, Nat.zero_le _, ⟨hH3, hgo3, hB3, hsz3, by simp, List.nodup_nil⟩, rfl⟩
  case round =>
    rintro a wo ⟨k, Ds, u8, u9, u10, u11, u12, u37, u38, u39, u40, u41, u42, u43, u44, u45, u46, u47, u48, u49, u50, u51, u52, u53, u54, u55, u56, u57, u58, u59, u60, u61, u62, u63, u64, u65, u66, u67, u68, u69, u70, u71, u72, hk, ⟨hH, hgo, hB, hsz, hDs, hND⟩, rfl⟩
    have HI := Lib.hid (And.intro hgo (And.intro hDs hND))
    clear hgo hDs hND
    have y0 := hH _ (List.mem_cons_self ..)
    have b0 := blk_cell y0 0
    have b1 := blk_cell y0 1
    have b2 := blk_cell y0 2
    have b3 := blk_cell y0 3
    have b4 := blk_cell y0 4
    simp only [List.getElem?_toArray, List.getElem?_cons_zero, List.getElem?_cons_succ] at b0 b1 b2 b3 b4
    have HHas := Lib.hid hH
    clear hH y0
    by_cases hlt : k < l0_3.length
    · obtain ⟨ad, hAd, q0, q1, q2, q3, q4, q5, q6, q7⟩ := at_T42 hr0_3 (k : Int) (by omega) (by omega)
      have hag := blockG hr0_3 ad hAd (by omega)
      have eb : (ad.add ((k : Int).toNat * 8)).block = ad.block := by unfold Addr.add; split <;> rfl
      have tr : ∀ p u, p.block = ad.block → w.cell? p = some u → wo.cell? p = some u := fun p u hp hu => (hB.cell (p := p) (by rw [hp]; exact hag)).trans hu
      replace q0 := tr _ _ (by first | exact eb | (show (ad.add _).block = _; exact eb)) q0
      replace q1 := tr _ _ (by first | exact eb | (show (ad.add _).block = _; exact eb)) q1
      replace q2 := tr _ _ (by first | exact eb | (show (ad.add _).block = _; exact eb)) q2
      replace q3 := tr _ _ (by first | exact eb | (show (ad.add _).block = _; exact eb)) q3
      replace q4 := tr _ _ (by first | exact eb | (show (ad.add _).block = _; exact eb)) q4
      replace q5 := tr _ _ (by first | exact eb | (show (ad.add _).block = _; exact eb)) q5
      replace q6 := tr _ _ (by first | exact eb | (show (ad.add _).block = _; exact eb)) q6
      replace q7 := tr _ _ (by first | exact eb | (show (ad.add _).block = _; exact eb)) q7
      simp only [Int.toNat_natCast] at q0 q1 q2 q3 q4 q5 q6 q7
      have hat := HF.out.at_ (a := (k : Int)) (by omega) (by omega)
      have HAD := Lib.hid hAd
      have hAd2 := hAd
      subst hAd2
      clear tr hAd
      have HX1 : ∀ u, Hid (rd_T42 l0_3 (k : Int) = u → True) := fun _ => Lib.hid (fun _ => trivial)
      clear HX1
      obtain ⟨x, hx⟩ : ∃ x, rd_T42 l0_3 (k : Int) = x := ⟨_, rfl⟩
      rw [hx] at q0 q1 q2 q3 q4 q5 q6 q7 hat
      have HXX := Lib.hid hx
      clear hx
      have n0 : ∀ (j : Nat) (v : Value) (o1 o2 : Obj), wo.cell? ⟨w.heap.size, j, none⟩ = some v → ((wo.alloc o1).alloc o2).cell? ⟨w.heap.size, j, none⟩ = some v := fun j v o1 o2 h => ((below_alloc (below_alloc (Below.refl wo.heap.size wo) o1) o2).cell (p := ⟨w.heap.size, j, none⟩) (show w.heap.size < _ by omega)).trans h
      have d0 := n0 0 _ (.cells #[.int .i64 k] 3) (.cells #[.string x.f0, .int .i64 x.f1, .int .i64 x.f2, .int .i64 x.f3, .int .i64 x.f4, .int .i64 x.f5, .int .i64 x.f6, .int .i64 x.f7] 42) b0
      have d1 := n0 1 _ (.cells #[.int .i64 k] 3) (.cells #[.string x.f0, .int .i64 x.f1, .int .i64 x.f2, .int .i64 x.f3, .int .i64 x.f4, .int .i64 x.f5, .int .i64 x.f6, .int .i64 x.f7] 42) b1
      have d2 := n0 2 _ (.cells #[.int .i64 k] 3) (.cells #[.string x.f0, .int .i64 x.f1, .int .i64 x.f2, .int .i64 x.f3, .int .i64 x.f4, .int .i64 x.f5, .int .i64 x.f6, .int .i64 x.f7] 42) b2
      have d3 := n0 3 _ (.cells #[.int .i64 k] 3) (.cells #[.string x.f0, .int .i64 x.f1, .int .i64 x.f2, .int .i64 x.f3, .int .i64 x.f4, .int .i64 x.f5, .int .i64 x.f6, .int .i64 x.f7] 42) b3
      have d4 := n0 4 _ (.cells #[.int .i64 k] 3) (.cells #[.string x.f0, .int .i64 x.f1, .int .i64 x.f2, .int .i64 x.f3, .int .i64 x.f4, .int .i64 x.f5, .int .i64 x.f6, .int .i64 x.f7] 42) b4
      clear n0
      gi_wp2
      refine ⟨trivial, rfl, callsIn_wide.2 ((upward_calls _ _ _ _ _ _ _ _ _ _ _ _ _ _ _ _ _).mono ?_)⟩
      rintro e w3 ⟨rfl, rfl⟩
      clear d0 d1 d2 d3 d4
      gi_wp2
      obtain ⟨W4, hW4⟩ : ∃ W4, (((wo.alloc (.cells #[.int .i64 k] 3)).alloc (.cells #[.string x.f0, .int .i64 x.f1, .int .i64 x.f2, .int .i64 x.f3, .int .i64 x.f4, .int .i64 x.f5, .int .i64 x.f6, .int .i64 x.f7] 42)).alloc (.cells #[.slice A0_0 l0_0.length c0_0, .slice A0_1 l0_1.length c0_1, .slice A0_2 l0_2.length c0_2, .slice (some ad) l0_3.length c0_3, .slice A0_4 l0_4.length c0_4] 28)).alloc (.cells #[.int .i64 x.f1] 3) = W4 := ⟨_, rfl⟩
      have hsz4 : wo.heap.size + 4 ≤ W4.heap.size := by rw [← hW4]; simp
      have hB4 : Below w.heap.size w W4 := by rw [← hW4]; exact below_alloc (below_alloc (below_alloc (below_alloc hB _) _) _) _
      have hBr : Below wo.heap.size wo W4 := by rw [← hW4]; exact below_alloc (below_alloc (below_alloc (below_alloc (Below.refl _ wo) _) _) _) _
      have r0 : W4.heap[wo.heap.size]? = some (.cells #[.int .i64 k] 3 (0, 0)) := by
        rw [← hW4]
        exact (Below.heap_alloc _ _ _ (by simp; omega)).trans ((Below.heap_alloc _ _ _ (by simp; omega)).trans ((Below.heap_alloc _ _ _ (by simp)).trans (heap_alloc_new _ _)))
      have r1 : W4.heap[wo.heap.size + 1]? = some (.cells #[.string x.f0, .int .i64 x.f1, .int .i64 x.f2, .int .i64 x.f3, .int .i64 x.f4, .int .i64 x.f5, .int .i64 x.f6, .int .i64 x.f7] 42 (0, 0)) := by
        rw [← hW4]
        refine (Below.heap_alloc _ _ _ (by simp)).trans ((Below.heap_alloc _ _ _ (by simp)).trans ?_)
        have := heap_alloc_new (wo.alloc (.cells #[.int .i64 k] 3)) (.cells #[.string x.f0, .int .i64 x.f1, .int .i64 x.f2, .int .i64 x.f3, .int .i64 x.f4, .int .i64 x.f5, .int .i64 x.f6, .int .i64 x.f7] 42)
        rwa [World.size_alloc] at this
      have r2 : W4.heap[wo.heap.size + 1 + 1]? = some (.cells #[.slice A0_0 l0_0.length c0_0, .slice A0_1 l0_1.length c0_1, .slice A0_2 l0_2.length c0_2, .slice (some ad) l0_3.length c0_3, .slice A0_4 l0_4.length c0_4] 28 (0, 0)) := by
        rw [← hW4]
        refine (Below.heap_alloc _ _ _ (by simp)).trans ?_
        have := heap_alloc_new ((wo.alloc (.cells #[.int .i64 k] 3)).alloc (.cells #[.string x.f0, .int .i64 x.f1, .int .i64 x.f2, .int .i64 x.f3, .int .i64 x.f4, .int .i64 x.f5, .int .i64 x.f6, .int .i64 x.f7] 42)) (.cells #[.slice A0_0 l0_0.length c0_0, .slice A0_1 l0_1.length c0_1, .slice A0_2 l0_2.length c0_2, .slice (some ad) l0_3.length c0_3, .slice A0_4 l0_4.length c0_4] 28)
        rwa [World.size_alloc, World.size_alloc] at this
      have r3 : W4.heap[wo.heap.size + 1 + 1 + 1]? = some (.cells #[.int .i64 x.f1] 3 (0, 0)) := by
        rw [← hW4]
        have := heap_alloc_new (((wo.alloc (.cells #[.int .i64 k] 3)).alloc (.cells #[.string x.f0, .int .i64 x.f1, .int .i64 x.f2, .int .i64 x.f3, .int .i64 x.f4, .int .i64 x.f5, .int .i64 x.f6, .int .i64 x.f7] 42)).alloc (.cells #[.slice A0_0 l0_0.length c0_0, .slice A0_1 l0_1.length c0_1, .slice A0_2 l0_2.length c0_2, .slice (some ad) l0_3.length c0_3, .slice A0_4 l0_4.length c0_4] 28)) (.cells #[.int .i64 x.f1] 3)
        rwa [World.size_alloc, World.size_alloc, World.size_alloc] at this
      have hit := Lib.hid (upward_iter A0_0 A0_1 A0_2 (some ad) A0_4 c0_0 c0_1 c0_2 c0_3 c0_4 l0_1.length l0_2.length l0_3.length l0_4.length l0_0 x.f1 W4 (wo.heap.size + 1 + 1) (wo.heap.size + 1 + 1 + 1) w.heap.size (by omega) (by omega) r2 r3 (by omega) (blockC hr0_0) (Kd.C_below hr0_0 hB4) HF.out.up HF.out.n0.2 (by omega) hat.2)
      have hgo4 : W4.heap[w2.heap.size]? = some (.cells (flatA (loadsTo l0_0 l0_3 l1 k)).toArray 55 (0, 0)) := (hBr.block _ (by omega)).trans HI.out.1
      have hDlt : ∀ D ∈ Ds, w2.heap.size + 2 ≤ D ∧ D < wo.heap.size := fun D hD => ⟨(HI.out.2.1 D hD).1, (Array.getElem?_eq_some_iff.1 (HI.out.2.1 D hD).2).1⟩
      have hL4 : ∀ p ∈ (([(w.heap.size, .cells #[.slice A0_0 l0_0.length c0_0, .slice A0_1 l0_1.length c0_1, .slice A0_2 l0_2.length c0_2, .slice (some ad) l0_3.length c0_3, .slice A0_4 l0_4.length c0_4] 28 (0, 0)), (w.heap.size + 1, .cells #[.slice A1 l1.length c1] 29 (0, 0)), (w2.heap.size + 1, .cells #[.slice (some ⟨w2.heap.size, 0, none⟩) l0_0.length l0_0.length] 35 (0, 0))] ++ [(wo.heap.size, .cells #[.int .i64 k] 3 (0, 0)), (wo.heap.size + 1, .cells #[.string x.f0, .int .i64 x.f1, .int .i64 x.f2, .int .i64 x.f3, .int .i64 x.f4, .int .i64 x.f5, .int .i64 x.f6, .int .i64 x.f7] 42 (0, 0))] ++ Ds.map (fun D => (D, .deferred (some [])))) : List (Nat × Obj)), w.heap.size ≤ p.1 ∧ p.1 < wo.heap.size + 2 ∧ p.1 ≠ w2.heap.size := by
        intro p hp
        simp only [List.mem_append, List.mem_cons, List.not_mem_nil, or_false, List.mem_map] at hp
        rcases hp with ((rfl | rfl | rfl) | rfl | rfl) | ⟨D, hD, rfl⟩
        · exact ⟨Nat.le_refl _, by omega, by show w.heap.size ≠ _; omega⟩
        · refine ⟨by show w.heap.size ≤ w.heap.size + 1; omega, by show w.heap.size + 1 < _; omega, by show w.heap.size + 1 ≠ _; omega⟩
        · refine ⟨by show w.heap.size ≤ w2.heap.size + 1; omega, by show w2.heap.size + 1 < _; omega, by show w2.heap.size + 1 ≠ _; omega⟩
        · refine ⟨by show w.heap.size ≤ wo.heap.size; omega, by show wo.heap.size < _; omega, by show wo.heap.size ≠ _; omega⟩
        · refine ⟨by show w.heap.size ≤ wo.heap.size + 1; omega, by show wo.heap.size + 1 < _; omega, by show wo.heap.size + 1 ≠ _; omega⟩
        · have := hDlt D hD
          refine ⟨by show w.heap.size ≤ D; omega, by show D < _; omega, by show D ≠ _; omega⟩
      have hH4 : Has W4 ([(w.heap.size, .cells #[.slice A0_0 l0_0.length c0_0, .slice A0_1 l0_1.length c0_1, .slice A0_2 l0_2.length c0_2, .slice (some ad) l0_3.length c0_3, .slice A0_4 l0_4.length c0_4] 28 (0, 0)), (w.heap.size + 1, .cells #[.slice A1 l1.length c1] 29 (0, 0)), (w2.heap.size + 1, .cells #[.slice (some ⟨w2.heap.size, 0, none⟩) l0_0.length l0_0.length] 35 (0, 0))] ++ [(wo.heap.size, .cells #[.int .i64 k] 3 (0, 0)), (wo.heap.size + 1, .cells #[.string x.f0, .int .i64 x.f1, .int .i64 x.f2, .int .i64 x.f3, .int .i64 x.f4, .int .i64 x.f5, .int .i64 x.f6, .int .i64 x.f7] 42 (0, 0))] ++ Ds.map (fun D => (D, .deferred (some [])))) := by
        intro p hp
        simp only [List.mem_append, List.mem_cons, List.not_mem_nil, or_false, List.mem_map] at hp
        rcases hp with ((rfl | rfl | rfl) | rfl | rfl) | ⟨D, hD, rfl⟩
        · exact (hBr.block _ (show w.heap.size < _ by omega)).trans (HHas.out _ (List.mem_cons_self ..))
        · exact (hBr.block _ (show w.heap.size + 1 < _ by omega)).trans (HHas.out _ (List.mem_cons_of_mem _ (List.mem_cons_self ..)))
        · exact (hBr.block _ (show w2.heap.size + 1 < _ by omega)).trans (HHas.out _ (List.mem_cons_of_mem _ (List.mem_cons_of_mem _ (List.mem_cons_self ..))))
        · exact r0
        · exact r1
        · exact (hBr.block _ (hDlt D hD).2).trans (HI.out.2.1 D hD).2
      have hlen := upL_len l0_0 17 x.f1
      have hxb : ∀ i, i < (upL l0_0 17 x.f1).length → 0 ≤ (upL l0_0 17 x.f1).getD i 0 ∧ (upL l0_0 17 x.f1).getD i 0 < l0_0.length := fun i hi => by
        have h1 := upL_get (l0 := l0_0) 17 x.f1 i hi
        have h2 := itUp_bd HF.out.up i x.f1 (by omega) hat.2 (fun j hj => (upL_get 17 x.f1 j (by omega)).2)
        have e : (upL l0_0 17 x.f1).getD i 0 = (upL l0_0 17 x.f1)[i] := by simp [List.getD_eq_getElem?_getD, hi]
        rw [e, h1.1]
        exact ⟨h1.2, h2.2⟩
      have hHr := HHas.out
      have hw2r := hsz
      obtain ⟨L4, hL⟩ : ∃ L : List (Nat × Obj), L = ([(w.heap.size, .cells #[.slice A0_0 l0_0.length c0_0, .slice A0_1 l0_1.length c0_1, .slice A0_2 l0_2.length c0_2, .slice (some ad) l0_3.length c0_3, .slice A0_4 l0_4.length c0_4] 28 (0, 0)), (w.heap.size + 1, .cells #[.slice A1 l1.length c1] 29 (0, 0)), (w2.heap.size + 1, .cells #[.slice (some ⟨w2.heap.size, 0, none⟩) l0_0.length l0_0.length] 35 (0, 0))] ++ [(wo.heap.size, .cells #[.int .i64 k] 3 (0, 0)), (wo.heap.size + 1, .cells #[.string x.f0, .int .i64 x.f1, .int .i64 x.f2, .int .i64 x.f3, .int .i64 x.f4, .int .i64 x.f5, .int .i64 x.f6, .int .i64 x.f7] 42 (0, 0))] ++ Ds.map (fun D => (D, .deferred (some [])))) := ⟨_, rfl⟩
      have HL := Lib.hid hL
      rw [← hL] at hL4 hH4
      rw [hW4]
      obtain ⟨out0, hout⟩ : ∃ o, loadsTo l0_0 l0_3 l1 k = o := ⟨_, rfl⟩
      have hol : out0.length = l0_0.length := by rw [← hout]; exact loadsTo_len _ _ _ _
      rw [hout] at hgo4
      have HOUT := Lib.hid hout
      obtain ⟨xs, hxs⟩ : ∃ xs, upL l0_0 17 x.f1 = xs := ⟨_, rfl⟩
      rw [hxs] at hit hlen hxb
      have HXS := Lib.hid hxs
      have hph := HF.out.ph (a := (k : Int)) (by omega) (by omega)
      rw [HXX.out] at hph
      clear hW4 r0 r1 r2 r3 hxs hout hL b0 b1 b2 b3 b4 hHr
      refine wp_rangeFunc_iter (g := .tmp 44) (ps := #[45]) (a := ⟨?T0, Ds.map cd⟩) (gf := 45) (lb := #[.pointer (some ⟨wo.heap.size + 1 + 1 + 1, 0, none⟩), .pointer (some ⟨wo.heap.size + 1 + 1, 0, none⟩)]) ?hg (enters_of Try.func45 (by kernel_rfl) rfl)
        (T := fun _ => False) (R := fun k => k < w.heap.size ∨ k = wo.heap.size + 1 + 1 ∨ k = wo.heap.size + 1 + 1 + 1) (fun k hk => by omega) hit.out (fun _ => rfl)
        (fun i W => Has W L4 ∧ W.heap[w2.heap.size]? = some (.cells (flatA ((xs.take i).foldl (bumpAt x.f2 (rd l1 k)) out0)).toArray 55 (0, 0)) ∧ Below w.heap.size w W ∧ W4.heap.size ≤ W.heap.size)
        (fun c i W => False)
        (fun i W W' hI ht => by
          obtain ⟨i1, i2, i3, i4⟩ := hI
          exact ⟨i1.turns ht (fun p hp => by have := hL4 p hp; rintro (⟨h, _⟩ | h | h); exact h; all_goals omega), (ht.block _ (by omega) (by rintro (⟨h, _⟩ | h | h); exact h; all_goals omega)).trans i2, ht.below i3 i3.size (by rintro k (⟨h, _⟩ | h | h); exact h.elim; all_goals omega), by have := ht.size; omega⟩)
        (fun c i W W' hI ht => hI)
        ⟨hH4, hgo4, hB4, Nat.le_refl _⟩
        (fun i a1 W => a1 = ⟨(Array.setIfInBounds (Array.setIfInBounds ?T0 45 (.int .i64 (xs.getD i 0))) 10 (.int .i64 (xs.getD i 0))), []⟩ ∧ Has W L4 ∧ W.heap[w2.heap.size]? = some (.cells (flatA ((xs.take i).foldl (bumpAt x.f2 (rd l1 k)) out0)).toArray 55 (0, 0)) ∧ Below w.heap.size w W ∧ W4.heap.size ≤ W.heap.size)
        (fun i a1 W W' hA ht => by
          obtain ⟨i0, i1, i2, i3, i4⟩ := hA
          exact ⟨i0, i1.turns ht (fun p hp => by have := hL4 p hp; omega), (ht.block _ (by omega) (by omega)).trans i2, ht.below i3 i3.size (fun k hk => by omega), by have := ht.size; omega⟩)
        ?assign ?body ?done ?stop
      case hg => rfl
      case assign =>
        intro ll i hi' W hI hsz' K hK
        have e : xs[i] = xs.getD i 0 := by simp [List.getD_eq_getElem?_getD, hi']
        rw [e]
        have HI2 := Lib.hid hI
        clear hI
        generalize xs.getD i 0 = y at *
        gi_wp2
        exact hK _ _ ⟨rfl, HI2.out⟩ (Turns.refl _ _)
      case body =>
        rintro ll i hi' a1 W ⟨rfl, hH, hgo, hBW, hszW⟩ hsz'
        obtain ⟨hx0, hx1⟩ := hxb i hi'
        obtain ⟨yn, hyn⟩ : ∃ n : Nat, xs.getD i 0 = (n : Int) := Int.eq_ofNat_of_zero_le hx0
        rw [hyn] at hx1
        have hx2 : yn < l0_0.length := by omega
        obtain ⟨out, ho⟩ : ∃ o, (xs.take i).foldl (bumpAt x.f2 (rd l1 k)) out0 = o := ⟨_, rfl⟩
        have hol2 : out.length = l0_0.length := by rw [← ho, fold_len, hol]
        have hfold : (xs.take (i + 1)).foldl (bumpAt x.f2 (rd l1 k)) out0 = out.set yn (bump (rd_T55 out (yn : Int)) x.f2 (rd l1 k)) := by
          have e : xs.take (i + 1) = xs.take i ++ [(yn : Int)] := by
            rw [List.take_succ_eq_append_getElem hi', ← hyn]; simp [List.getD_eq_getElem?_getD, hi']
          rw [e, List.foldl_append, ho]
          simp [bumpAt]
        have HFO := Lib.hid hfold
        have hself : out.set yn (rd_T55 out (yn : Int)) = out := by
          have hlt' : yn < out.length := by omega
          have : rd_T55 out (yn : Int) = out[yn] := by simp [rd_T55, List.getD_eq_getElem?_getD, hlt']
          rw [this]; exact List.set_getElem_self hlt'
        have HSE := Lib.hid hself
        rw [ho] at hgo
        have z0 := hH _ (by rw [HL.out]; exact List.mem_append_left _ (List.mem_append_left _ (List.mem_cons_of_mem _ (List.mem_cons_of_mem _ (List.mem_cons_self ..)))))
        have cb := blk_cell z0 0
        simp only [List.getElem?_toArray, List.getElem?_cons_zero] at cb
        have hk1 : (k : Int) < (l1.length : Int) := by have := HH.out; omega
        obtain ⟨ad1, hAd1, hamp⟩ := Kd.at_int hr1 (k : Int) (by omega) hk1
        have hA1 : ad1.block < w.heap.size := by
          have h1 := cell_lt hamp
          have e : (ad1.add (k : Int).toNat).block = ad1.block := by unfold Addr.add; split <;> rfl
          rwa [e] at h1
        obtain ⟨xx, hxx⟩ : ∃ y, rd_T55 out (yn : Int) = y := ⟨_, rfl⟩
        rw [hxx] at hself
        obtain ⟨amp, hampv⟩ : ∃ y, rd l1 (k : Int) = y := ⟨_, rfl⟩
        rw [hampv] at hamp
        simp only [Int.toNat_natCast] at hamp
        have HXA := Lib.hid (And.intro hxx (And.intro hampv (And.intro hself ho)))
        have hbits : ∀ q : Nat, (Go.bits .and .i64 (x.f2 / 2 ^ q) 1 == 1) = bitOf x.f2 q := fun q => bit_eq x.f2 q hph.1 hph.2
        have HBI := Lib.hid hbits
        have HG0 := Lib.hid (And.intro hgo (And.intro hH (And.intro hBW hszW)))
        clear hfold hself hxx hampv ho z0 hgo hH hbits
        simp only [List.setIfInBounds_toArray, List.set_cons_zero, List.set_cons_succ]
        rw [hyn]
        clear hyn
        gi_wp2
        gi_loopw [12, 49] (fun pv cv wr2 => ∃ q : Nat, q ≤ 3 ∧ cv = .int .i64 q ∧ wr2.heap[w2.heap.size]? = some (.cells (flatA (out.set yn (bq xx x.f2 amp q))).toArray 55 (0, 0)) ∧ Has wr2 L4 ∧ Turns (fun k => k = w2.heap.size) W wr2 ∧ Below w.heap.size w wr2 ∧ W4.heap.size ≤ wr2.heap.size) (fun _ cv _ => 3 - (intOf cv).toNat)
        case atStart => exact ⟨0, by omega, rfl, by show _ = some (Obj.cells (flatA (out.set yn xx)).toArray 55 (0, 0)); rw [HXA.out.2.2.1]; exact HG0.out.1, HG0.out.2.1, Turns.refl _ _, HG0.out.2.2.1, HG0.out.2.2.2⟩
        case round =>
          obtain ⟨q, hq, rfl, g1, g2, g3, g4, g5⟩ := hrel
          have HW := Lib.hid (And.intro g1 (And.intro g2 (And.intro g3 (And.intro g4 g5))))
          have v0 := g2 _ (by rw [HL.out]; exact List.mem_append_left _ (List.mem_append_left _ (List.mem_cons_of_mem _ (List.mem_cons_self ..))))
          have v1 := g2 _ (by rw [HL.out]; exact List.mem_append_left _ (List.mem_append_right _ (List.mem_cons_self ..)))
          have v2 := g2 _ (by rw [HL.out]; exact List.mem_append_left _ (List.mem_append_right _ (List.mem_cons_of_mem _ (List.mem_cons_self ..))))
          have w0 := blk_cell v0 0
          have w1 := blk_cell v1 0
          have w2c := blk_cell v2 2
          simp only [List.getElem?_toArray, List.getElem?_cons_zero, List.getElem?_cons_succ] at w0 w1 w2c
          have wamp : wr.cell? (ad1.add k) = some (.int .i64 amp) := (g4.cell (p := ad1.add k) (by have e : (ad1.add k).block = ad1.block := (by unfold Addr.add; split <;> rfl); rw [e]; exact hA1)).trans hamp
          have olen : (out.set yn (bq xx x.f2 amp q)).length = l0_0.length := by rw [List.length_set]; exact hol2
          have rdself : rd_T55 (out.set yn (bq xx x.f2 amp q)) (yn : Int) = bq xx x.f2 amp q := by simp [rd_T55, List.getD_eq_getElem?_getD, hol2, hx2]
          by_cases hlt3 : q < 3
          · have cg : wr.cell? ⟨w2.heap.size, yn * 3 + q, none⟩ = some (.int .i64 (fld (bq xx x.f2 amp q) q)) := by
              rw [blk_cell g1 (yn * 3 + q), List.getElem?_toArray, flatA_get _ yn q (by omega) hlt3, rdself]
            have fg := blk_frozen g1 (yn * 3 + q)
            have HNX : Hid (bitOf x.f2 q = true → ∀ (nq : Nat) (W6 : World), W6 = (wr.drewN nq).setCell ⟨w2.heap.size, yn * 3 + q, none⟩ (.int .i64 (wrap64 (fld (bq xx x.f2 amp q) q + amp))) → W6.heap[w2.heap.size]? = some (.cells (flatA (out.set yn (bq xx x.f2 amp (q + 1)))).toArray 55 (0, 0)) ∧ Turns (fun k => k = w2.heap.size) wr W6) := Lib.hid (fun hbq nq W6 e => ⟨by
              have g1' : (wr.drewN nq).heap[w2.heap.size]? = _ := g1
              rw [e, blk_put g1' (yn * 3 + q) _ rfl]
              simp only [List.setIfInBounds_toArray]
              rw [flatA_set _ yn q _ (by omega) hlt3, rdself, List.set_set]
              simp only [bq, hbq, if_true], by rw [e]; exact Turns.trans (B := wr.drewN nq) ⟨rfl, rfl, rfl, Nat.le_refl _, fun _ _ _ => rfl⟩ (Turns.setCell _ _ _ _ rfl)⟩)
            have hsame : ∀ b, bitOf x.f2 q = b → (Go.bits .and .i64 (x.f2 / 2 ^ q) 1 == 1) = b := fun b h => by rw [HBI.out, h]
            have hnb : ∀ p ∈ L4, p.1 ≠ w2.heap.size := fun p hp => (hL4 p hp).2.2
            clear g1 g2 g3 g4 g5 v0 v1 v2 rdself olen
            obtain rfl | rfl | rfl : q = 0 ∨ q = 1 ∨ q = 2 := by omega
            · clear hlt3 hq
              simp only [Nat.add_zero] at cg fg
              cases hb : bitOf x.f2 0
              · have hw := hsame _ hb
                simp only [Int.pow_zero, Int.ediv_one] at hw
                have H0 := Lib.hid hb
                clear hb hsame cg fg w0 w1 wamp hnb
                gi_wp2
                go_roundw
                case rel => exact ⟨1, by omega, by rfl, by rw [bqF (q := 0) H0.out]; exact HW.out.1, HW.out.2.1, HW.out.2.2.1, HW.out.2.2.2.1, HW.out.2.2.2.2⟩
                case measure => simp [intOf]
              · have hw := hsame _ hb
                simp only [Int.pow_zero, Int.ediv_one] at hw
                have H0 := Lib.hid hb
                have H1 := Lib.hid hnb
                clear hb hsame hnb
                gi_wp2
                refine wpIn_region_last (m := 12) (by kernel_rfl) (by kernel_rfl) (by simp only [List.take_succ_cons, List.take_zero]; rfl) ?_
                repeat (gi_big_quiet_step (skip))
                refine wpQuietIn_nil ?_
                intro _ hw'
                obtain ⟨nq, hw''⟩ := hw'
                subst hw''
                refine wpOpIn_step rfl (fun K hK => ?_)
                go_simp
                refine hK _ _ ?_
                clear hK K
                generalize hW6 : World.setCell _ _ _ = W6
                have HX := Lib.hid (HNX.out H0.out nq W6 hW6.symm)
                clear hW6 cg fg w0 w1 wamp
                gi_wp2
                rw [← hAd1]
                go_roundw
                case rel => exact ⟨1, by omega, by rfl, HX.out.1, HW.out.2.1.turns HX.out.2 H1.out, HW.out.2.2.1.trans HX.out.2, HX.out.2.below HW.out.2.2.2.1 HW.out.2.2.2.1.size (fun k hk => by rw [hk]; exact hz2), Nat.le_trans HW.out.2.2.2.2 HX.out.2.size⟩
                case measure => simp [intOf]
            · clear hlt3 hq
              cases hb : bitOf x.f2 1
              · have hw := hsame _ hb
                simp only [Int.reducePow] at hw
                have H0 := Lib.hid hb
                clear hb hsame cg fg w0 w1 wamp hnb
                gi_wp2
                go_roundw
                case rel => exact ⟨2, by omega, by rfl, by rw [bqF (q := 1) H0.out]; exact HW.out.1, HW.out.2.1, HW.out.2.2.1, HW.out.2.2.2.1, HW.out.2.2.2.2⟩
                case measure => simp [intOf]
              · have hw := hsame _ hb
                simp only [Int.reducePow] at hw
                have H0 := Lib.hid hb
                have H1 := Lib.hid hnb
                clear hb hsame hnb
                gi_wp2
                refine wpIn_region_last (m := 12) (by kernel_rfl) (by kernel_rfl) (by simp only [List.take_succ_cons, List.take_zero]; rfl) ?_
                repeat (gi_big_quiet_step (skip))
                refine wpQuietIn_nil ?_
                intro _ hw'
                obtain ⟨nq, hw''⟩ := hw'
                subst hw''
                refine wpOpIn_step rfl (fun K hK => ?_)
                go_simp
                refine hK _ _ ?_
                clear hK K
                generalize hW6 : World.setCell _ _ _ = W6
                have HX := Lib.hid (HNX.out H0.out nq W6 hW6.symm)
                clear hW6 cg fg w0 w1 wamp
                gi_wp2
                rw [← hAd1]
                go_roundw
                case rel => exact ⟨2, by omega, by rfl, HX.out.1, HW.out.2.1.turns HX.out.2 H1.out, HW.out.2.2.1.trans HX.out.2, HX.out.2.below HW.out.2.2.2.1 HW.out.2.2.2.1.size (fun k hk => by rw [hk]; exact hz2), Nat.le_trans HW.out.2.2.2.2 HX.out.2.size⟩
                case measure => simp [intOf]
            · clear hlt3 hq
              cases hb : bitOf x.f2 2
              · have hw := hsame _ hb
                simp only [Int.reducePow] at hw
                have H0 := Lib.hid hb
                clear hb hsame cg fg w0 w1 wamp hnb
                gi_wp2
                go_roundw
                case rel => exact ⟨3, by omega, by rfl, by rw [bqF (q := 2) H0.out]; exact HW.out.1, HW.out.2.1, HW.out.2.2.1, HW.out.2.2.2.1, HW.out.2.2.2.2⟩
                case measure => simp [intOf]
              · have hw := hsame _ hb
                simp only [Int.reducePow] at hw
                have H0 := Lib.hid hb
                have H1 := Lib.hid hnb
                clear hb hsame hnb
                gi_wp2
                refine wpIn_region_last (m := 12) (by kernel_rfl) (by kernel_rfl) (by simp only [List.take_succ_cons, List.take_zero]; rfl) ?_
                repeat (gi_big_quiet_step (skip))
                refine wpQuietIn_nil ?_
                intro _ hw'
                obtain ⟨nq, hw''⟩ := hw'
                subst hw''
                refine wpOpIn_step rfl (fun K hK => ?_)
                go_simp
                refine hK _ _ ?_
                clear hK K
                generalize hW6 : World.setCell _ _ _ = W6
                have HX := Lib.hid (HNX.out H0.out nq W6 hW6.symm)
                clear hW6 cg fg w0 w1 wamp
                gi_wp2
                rw [← hAd1]
                go_roundw
                case rel => exact ⟨3, by omega, by rfl, HX.out.1, HW.out.2.1.turns HX.out.2 H1.out, HW.out.2.2.1.trans HX.out.2, HX.out.2.below HW.out.2.2.2.1 HW.out.2.2.2.1.size (fun k hk => by rw [hk]; exact hz2), Nat.le_trans HW.out.2.2.2.2 HX.out.2.size⟩
                case measure => simp [intOf]
          · obtain rfl : q = 3 := by omega
            have H3 := Lib.hid rdself
            clear rdself w0 w1 w2c wamp olen v0 v1 v2 g1 g2 g3 g4 g5
            gi_wp2
            refine ⟨HW.out.2.2.1.mono (fun k hk => ?_), HW.out.2.1, ?_, HW.out.2.2.2.1, HW.out.2.2.2.2⟩
            · subst hk
              omega
            · rw [HW.out.1, HFO.out, bq_three]
              rw [HXA.out.1, HXA.out.2.1]
      case done =>
        rintro W ⟨i1, i2, i3, i4⟩ hD
        rw [List.take_length] at i2
        have HW := Lib.hid (And.intro i1 (And.intro i2 (And.intro i3 hD)))
        clear i1 i2 hD
        gi_wp2
        have ek : ((k : Int) + 1) = ((k + 1 : Nat) : Int) := by omega
        simp only [ek]
        have hD' : ∀ D ∈ W4.heap.size :: Ds, w2.heap.size + 2 ≤ D ∧ W.heap[D]? = some (.deferred (some [])) := fun D hD => by
          rcases List.mem_cons.1 hD with rfl | hD
          · exact ⟨by omega, HW.out.2.2.2⟩
          · exact ⟨(hDlt D hD).1, HW.out.1 _ (by rw [HL.out]; exact List.mem_append_right _ (List.mem_map.2 ⟨D, hD, rfl⟩))⟩
        have hN' : (W4.heap.size :: Ds).Nodup := List.nodup_cons.2 ⟨fun h => by have := hDlt _ h; omega, HI.out.2.2⟩
        have hgoN : W.heap[w2.heap.size]? = some (.cells (flatA (loadsTo l0_0 l0_3 l1 (k + 1))).toArray 55 (0, 0)) := by
          rw [HW.out.2.1]
          show _ = some (Obj.cells (flatA ((upL l0_0 17 (rd_T42 l0_3 (k : Int)).f1).foldl (bumpAt (rd_T42 l0_3 (k : Int)).f2 (rd l1 (k : Int))) (loadsTo l0_0 l0_3 l1 k))).toArray 55 (0, 0))
          rw [HXX.out, HXS.out, HOUT.out]
        refine ⟨⟨k + 1, W4.heap.size :: Ds, _, _, _, _, _, _, _, _, _, _, _, _, _, _, _, _, _, _, _, _, _, _, _, _, _, _, _, _, _, _, _, _, _, _, _, _, _, _, _, _, _, by omega, ⟨fun p hp => HW.out.1 p (by rw [HL.out]; exact List.mem_append_left _ (List.mem_append_left _ hp)), hgoN, HW.out.2.2.1, by omega, hD', hN'⟩, rfl⟩, ?_⟩
        simp [intOf]
        omega
      case stop =>
        rintro c' i W hi' h hD
        exact h.elim
    · obtain rfl : k = l0_3.length := by omega
      have y3 := HHas.out _ (List.mem_cons_of_mem _ (List.mem_cons_of_mem _ (List.mem_cons_self ..)))
      have c3 := blk_cell y3 0
      simp only [List.getElem?_toArray, List.getElem?_cons_zero] at c3
      have HB2 := Lib.hid hB
      clear y3 b0 b1 b2 b3 b4
      gi_wp2
      refine leaves_collected Ds wo (fun D hD => (HI.out.2.1 D hD).2) HI.out.2.2 (fun w' ht => ?_)
      have hgo' : w'.heap[w2.heap.size]? = some (.cells (flatA (loadsTo l0_0 l0_3 l1 l0_3.length)).toArray 55 (0, 0)) := (ht.block _ (by omega) (fun h => by have := (HI.out.2.1 _ h).1; omega)).trans HI.out.1
      have hl := loadsTo_len l0_0 l0_3 l1 l0_3.length
      refine ⟨.tuple #[.slice (some ⟨w2.heap.size, 0, none⟩) l0_0.length l0_0.length, .int .i64 0], by simp [results, Try.results14, go_sem], .slice (some ⟨w2.heap.size, 0, none⟩) l0_0.length l0_0.length, rfl, ?_, ?_⟩
      · have hr := R_of_flat (base := w.heap.size) (ok := fun _ => True) hgo' (by omega) trivial (by rw [hl]; unfold maxLen; omega)
        rw [hl] at hr
        exact hr
      · exact ht.below HB2.out HB2.out.size (fun D hD => by have := (HI.out.2.1 D hD).1; omega)
def tree_Loads.f (l0_0 : List (S48)) (l0_1 : List (S62)) (l0_2 : List (S84)) (l0_3 : List (S42)) (l0_4 : List (S87)) (l1 : List Int) : Option (List S55 × Int) :=
  if l1.length ≠ l0_3.length then some ([], 1) else if 1000000 < l1.length then none else if l1.any badA = true then some ([], 1) else
  (site_Valid.f l0_0 l0_1 l0_2 l0_3 l0_4).bind fun v => some (if v then (loadsV l0_0 l0_3 l1, 0) else ([], 1))
theorem tree_Loads.calls (A0_0 : Option Addr) (c0_0 : Nat) (l0_0 : List (S48)) (A0_1 : Option Addr) (c0_1 : Nat) (l0_1 : List (S62)) (A0_2 : Option Addr) (c0_2 : Nat) (l0_2 : List (S84)) (A0_3 : Option Addr) (c0_3 : Nat) (l0_3 : List (S42)) (A0_4 : Option Addr) (c0_4 : Nat) (l0_4 : List (S87)) (A1 : Option Addr) (c1 : Nat) (l1 : List Int) (r1 : List (S55)) (r2 : Int) (w : World) (hr0_0 : Kd.C k48 w A0_0 l0_0.length l0_0) (hc0_0 : l0_0.length ≤ c0_0) (hr0_1 : Kd.C k62 w A0_1 l0_1.length l0_1) (hc0_1 : l0_1.length ≤ c0_1) (hr0_2 : Kd.C k84 w A0_2 l0_2.length l0_2) (hc0_2 : l0_2.length ≤ c0_2) (hr0_3 : Kd.C k42 w A0_3 l0_3.length l0_3) (hc0_3 : l0_3.length ≤ c0_3) (hr0_4 : Kd.C k87 w A0_4 l0_4.length l0_4) (hc0_4 : l0_4.length ≤ c0_4) (hr1 : Kd.C (Kd.int .i64) w A1 l1.length l1) (hc1 : l1.length ≤ c1) (h : tree_Loads.f l0_0 l0_1 l0_2 l0_3 l0_4 l1 = some (r1, r2)) :
    Calls Try.prog 14 #[.agg #[.slice A0_0 l0_0.length c0_0, .slice A0_1 l0_1.length c0_1, .slice A0_2 l0_2.length c0_2, .slice A0_3 l0_3.length c0_3, .slice A0_4 l0_4.length c0_4], .slice A1 l1.length c1] w fun e w' => ∃ v0_ : Value, e = .returned (.tuple #[v0_, .int .i64 r2]) ∧ Kd.R k55 55 w' w.heap.size (fun _ => True) v0_ r1 ∧ Below w.heap.size w w' := by
  have bad : ∀ {W : World} {e : Ending}, (e = .returned (.tuple #[.slice none 0 0, .int .i64 1]) ∧ Below w.heap.size w W) → ([], (1 : Int)) = (r1, r2) →
      ∃ v0_ : Value, e = .returned (.tuple #[v0_, .int .i64 r2]) ∧ Kd.R k55 55 W w.heap.size (fun _ => True) v0_ r1 ∧ Below w.heap.size w W := by
    rintro W e ⟨rfl, hB⟩ hr
    simp only [Prod.mk.injEq] at hr
    obtain ⟨rfl, rfl⟩ := hr
    exact ⟨_, rfl, Kd.R_nil _ _ _ _ _, hB⟩
  unfold tree_Loads.f at h
  by_cases hl : l1.length = l0_3.length
  · rw [if_neg (fun hn => hn hl)] at h
    by_cases h16 : 1000000 < l1.length
    · rw [if_pos h16] at h; cases h
    · rw [if_neg h16] at h
      cases hb : l1.any badA
      · rw [hb, if_neg (by decide)] at h
        cases hv : site_Valid.f l0_0 l0_1 l0_2 l0_3 l0_4 with
        | none => rw [hv] at h; cases h
        | some v =>
          rw [hv] at h
          simp only [Option.bind_some, Option.some.injEq] at h
          cases v
          · exact (loads_inv A0_0 c0_0 l0_0 A0_1 c0_1 l0_1 A0_2 c0_2 l0_2 A0_3 c0_3 l0_3 A0_4 c0_4 l0_4 A1 c1 l1 w hr0_0 hc0_0 hr0_1 hc0_1 hr0_2 hc0_2 hr0_3 hc0_3 hr0_4 hc0_4 hr1 hl (by omega) hb hv).mono fun e W he => bad he h
          · refine (loads_main A0_0 c0_0 l0_0 A0_1 c0_1 l0_1 A0_2 c0_2 l0_2 A0_3 c0_3 l0_3 A0_4 c0_4 l0_4 A1 c1 l1 w hr0_0 hc0_0 hr0_1 hc0_1 hr0_2 hc0_2 hr0_3 hc0_3 hr0_4 hc0_4 hr1 hl hb hv).mono ?_
            simp only [if_true, Prod.mk.injEq] at h
            obtain ⟨rfl, rfl⟩ := h
            exact fun e W he => he
      · rw [hb, if_pos rfl] at h
        exact (loads_bad A0_0 c0_0 l0_0 A0_1 c0_1 l0_1 A0_2 c0_2 l0_2 A0_3 c0_3 l0_3 A0_4 c0_4 l0_4 A1 c1 l1 w hr0_0 hc0_0 hr0_1 hc0_1 hr0_2 hc0_2 hr0_3 hc0_3 hr0_4 hc0_4 hr1 hl (by omega) hb).mono fun e W he => bad he (Option.some.inj h)
  · rw [if_pos hl] at h
    exact (loads_len A0_0 c0_0 l0_0 A0_1 c0_1 l0_1 A0_2 c0_2 l0_2 A0_3 c0_3 l0_3 A0_4 c0_4 l0_4 A1 c1 l1 w hr0_0 hc0_0 hr0_1 hc0_1 hr0_2 hc0_2 hr0_3 hc0_3 hr0_4 hc0_4 hr1 hl).mono fun e W he => bad he (Option.some.inj h)
end Go.Proofs.Ytpdmnineampimaa.Q
