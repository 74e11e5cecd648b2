import Derived.Test.YtpdmnineampimaaYe
import Derived.Test.YtpdmnineampimaaYQx21
set_option linter.unusedVariables false
set_option linter.unusedSimpArgs false
namespace Go.Proofs.Ytpdmnineampimaa.Q
open Go.RowKit Go.Proofs.YtpdmnineampimaaW.PrintWords Go.Proofs.YtpdmnineampimaaW.PrintLast Go.Proofs.YtpdmnineampimaaW.PrintMore
attribute [local go_sem] max2_int min2_int max_two min_two max_three min_three max_four min_four
attribute [local go_sem high] eqA44 eqA46
mutual
def site_conductor.j0 : Nat → Int → Bool → ByteArray → Int → Int → Int → Int → Int → Int → Int → Int → Int → Int → Int → Int → Int → Int → Int → Option (Bool)
  | 0, _, _, _, _, _, _, _, _, _, _, _, _, _, _, _, _, _, _ => none
  | k + 1, x1, x7, x106000, x106001, x106002, x106003, x106004, x106005, x106006, x106007, x106008, x106009, x106010, x108000, x108001, x108002, x108003, x108004 => if (x108000 == 0 && (x108001 == 0 && (x108002 == 0 && (x108003 == 0 && (x108004 == 0))))) = true then (site_conductor.j1 k x1 x7 true x106000 x106001 x106002 x106003 x106004 x106005 x106006 x106007 x106008 x106009 x106010) else ((site_inside.f x108000 0 200000).bind fun t110 => (if t110 = true then ((site_inside.f x108001 (wrap64 (x108000 + 1)) 200000).bind fun t111 => (if t111 = true then ((site_inside.f x108002 0 1000).bind fun t112 => (if t112 = true then ((site_inside.f x108003 0 1000).bind fun t113 => (if t113 = true then ((site_inside.f x108004 1 1000000).bind fun t114 => (site_conductor.j1 k x1 x7 t114 x106000 x106001 x106002 x106003 x106004 x106005 x106006 x106007 x106008 x106009 x106010)) else (site_conductor.j1 k x1 x7 false x106000 x106001 x106002 x106003 x106004 x106005 x106006 x106007 x106008 x106009 x106010))) else (site_conductor.j1 k x1 x7 false x106000 x106001 x106002 x106003 x106004 x106005 x106006 x106007 x106008 x106009 x106010))) else (site_conductor.j1 k x1 x7 false x106000 x106001 x106002 x106003 x106004 x106005 x106006 x106007 x106008 x106009 x106010))) else (site_conductor.j1 k x1 x7 false x106000 x106001 x106002 x106003 x106004 x106005 x106006 x106007 x106008 x106009 x106010)))
def site_conductor.j1 : Nat → Int → Bool → Bool → ByteArray → Int → Int → Int → Int → Int → Int → Int → Int → Int → Int → Option (Bool)
  | 0, _, _, _, _, _, _, _, _, _, _, _, _, _, _ => none
  | k + 1, x1, x7, x8, x106000, x106001, x106002, x106003, x106004, x106005, x106006, x106007, x106008, x106009, x106010 => if x1 = 0 then (if x106001 = (-1) then (site_conductor.j2 k x7 x8 true x106000 x106001 x106002 x106003 x106004 x106005 x106006 x106007 x106008 x106009 x106010) else (if x1 > 0 then ((site_inside.f x106001 0 (wrap64 (x1 - 1))).bind fun t115 => (site_conductor.j2 k x7 x8 t115 x106000 x106001 x106002 x106003 x106004 x106005 x106006 x106007 x106008 x106009 x106010)) else (site_conductor.j2 k x7 x8 false x106000 x106001 x106002 x106003 x106004 x106005 x106006 x106007 x106008 x106009 x106010))) else (if x1 > 0 then ((site_inside.f x106001 0 (wrap64 (x1 - 1))).bind fun t116 => (site_conductor.j2 k x7 x8 t116 x106000 x106001 x106002 x106003 x106004 x106005 x106006 x106007 x106008 x106009 x106010)) else (site_conductor.j2 k x7 x8 false x106000 x106001 x106002 x106003 x106004 x106005 x106006 x106007 x106008 x106009 x106010))
def site_conductor.j2 : Nat → Bool → Bool → Bool → ByteArray → Int → Int → Int → Int → Int → Int → Int → Int → Int → Int → Option (Bool)
  | 0, _, _, _, _, _, _, _, _, _, _, _, _, _, _ => none
  | k + 1, x7, x8, x9, x106000, x106001, x106002, x106003, x106004, x106005, x106006, x106007, x106008, x106009, x106010 => if x9 = true then (if x7 = true then (if x8 = true then ((site_inside.f x106002 1 1000).bind fun t117 => (if t117 = true then ((site_inside.f x106003 1 1000).bind fun t118 => (site_conductor.j3 k t118)) else (site_conductor.j3 k false))) else (site_conductor.j3 k false)) else (site_conductor.j3 k false)) else (site_conductor.j3 k false)
def site_conductor.j3 : Nat → Bool → Option (Bool)
  | 0, _ => none
  | k + 1, x4 => some x4
end
def site_conductor.f (k : Nat) (a0_0 : ByteArray) (a0_1 : Int) (a0_2 : Int) (a0_3 : Int) (a0_4 : Int) (a0_5 : Int) (a0_6 : Int) (a0_7 : Int) (a0_8 : Int) (a0_9 : Int) (a0_10 : Int) (a1 : Int) : Option (Bool) := if (a0_4 == 0 && (a0_5 == 0)) = true then (site_conductor.j0 k a1 true a0_0 a0_1 a0_2 a0_3 a0_4 a0_5 a0_6 a0_7 a0_8 a0_9 a0_10 a0_6 a0_7 a0_8 a0_9 a0_10) else ((site_inside.f a0_4 1 1000).bind fun t108 => (if t108 = true then ((site_inside.f a0_5 0 1000000).bind fun t109 => (site_conductor.j0 k a1 t109 a0_0 a0_1 a0_2 a0_3 a0_4 a0_5 a0_6 a0_7 a0_8 a0_9 a0_10 a0_6 a0_7 a0_8 a0_9 a0_10)) else (site_conductor.j0 k a1 false a0_0 a0_1 a0_2 a0_3 a0_4 a0_5 a0_6 a0_7 a0_8 a0_9 a0_10 a0_6 a0_7 a0_8 a0_9 a0_10)))
theorem site_conductor.mono_l : ∀ k, (∀ y0 y1 y2 y3 y4 y5 y6 y7 y8 y9 y10 y11 y12 y13 y14 y15 y16 y17, LeO (site_conductor.j0 k y0 y1 y2 y3 y4 y5 y6 y7 y8 y9 y10 y11 y12 y13 y14 y15 y16 y17) (site_conductor.j0 (k + 1) y0 y1 y2 y3 y4 y5 y6 y7 y8 y9 y10 y11 y12 y13 y14 y15 y16 y17)) ∧ (∀ y0 y1 y2 y3 y4 y5 y6 y7 y8 y9 y10 y11 y12 y13, LeO (site_conductor.j1 k y0 y1 y2 y3 y4 y5 y6 y7 y8 y9 y10 y11 y12 y13) (site_conductor.j1 (k + 1) y0 y1 y2 y3 y4 y5 y6 y7 y8 y9 y10 y11 y12 y13)) ∧ (∀ y0 y1 y2 y3 y4 y5 y6 y7 y8 y9 y10 y11 y12 y13, LeO (site_conductor.j2 k y0 y1 y2 y3 y4 y5 y6 y7 y8 y9 y10 y11 y12 y13) (site_conductor.j2 (k + 1) y0 y1 y2 y3 y4 y5 y6 y7 y8 y9 y10 y11 y12 y13)) ∧ (∀ y0, LeO (site_conductor.j3 k y0) (site_conductor.j3 (k + 1) y0))
  | 0 => ⟨fun _ _ _ _ _ _ _ _ _ _ _ _ _ _ _ _ _ _ r h => by simp [site_conductor.j0] at h, fun _ _ _ _ _ _ _ _ _ _ _ _ _ _ r h => by simp [site_conductor.j1] at h, fun _ _ _ _ _ _ _ _ _ _ _ _ _ _ r h => by simp [site_conductor.j2] at h, fun _ r h => by simp [site_conductor.j3] at h⟩
  | k + 1 => by
    obtain ⟨ih0, ih1, ih2, ih3⟩ := site_conductor.mono_l k
    refine ⟨?_, ?_, ?_, ?_⟩
    · intro y0 y1 y2 y3 y4 y5 y6 y7 y8 y9 y10 y11 y12 y13 y14 y15 y16 y17
      unfold site_conductor.j0
      repeat' first | (with_reducible apply ih0) | (with_reducible apply ih1) | (with_reducible apply ih2) | (with_reducible apply ih3) | (with_reducible exact LeO.refl _) | (with_reducible exact LeO.none _) | (with_reducible refine LeO.ite ?_ ?_) | (with_reducible refine LeO.bind ?_ (fun _ => ?_))
    · intro y0 y1 y2 y3 y4 y5 y6 y7 y8 y9 y10 y11 y12 y13
      unfold site_conductor.j1
      repeat' first | (with_reducible apply ih0) | (with_reducible apply ih1) | (with_reducible apply ih2) | (with_reducible apply ih3) | (with_reducible exact LeO.refl _) | (with_reducible exact LeO.none _) | (with_reducible refine LeO.ite ?_ ?_) | (with_reducible refine LeO.bind ?_ (fun _ => ?_))
    · intro y0 y1 y2 y3 y4 y5 y6 y7 y8 y9 y10 y11 y12 y13
      unfold site_conductor.j2
      repeat' first | (with_reducible apply ih0) | (with_reducible apply ih1) | (with_reducible apply ih2) | (with_reducible apply ih3) | (with_reducible exact LeO.refl _) | (with_reducible exact LeO.none _) | (with_reducible refine LeO.ite ?_ ?_) | (with_reducible refine LeO.bind ?_ (fun _ => ?_))
    · intro y0
      unfold site_conductor.j3
      repeat' first | (with_reducible apply ih0) | (with_reducible apply ih1) | (with_reducible apply ih2) | (with_reducible apply ih3) | (with_reducible exact LeO.refl _) | (with_reducible exact LeO.none _) | (with_reducible refine LeO.ite ?_ ?_) | (with_reducible refine LeO.bind ?_ (fun _ => ?_))
theorem site_conductor.mono : ∀ a0 a1 a2 a3 a4 a5 a6 a7 a8 a9 a10 a11 k, LeO (site_conductor.f k a0 a1 a2 a3 a4 a5 a6 a7 a8 a9 a10 a11) (site_conductor.f (k + 1) a0 a1 a2 a3 a4 a5 a6 a7 a8 a9 a10 a11) := by
  intro a0 a1 a2 a3 a4 a5 a6 a7 a8 a9 a10 a11 k
  obtain ⟨ih0, ih1, ih2, ih3⟩ := site_conductor.mono_l k
  unfold site_conductor.f
  repeat' first | (with_reducible apply ih0) | (with_reducible apply ih1) | (with_reducible apply ih2) | (with_reducible apply ih3) | (with_reducible exact LeO.refl _) | (with_reducible exact LeO.none _) | (with_reducible refine LeO.ite ?_ ?_) | (with_reducible refine LeO.bind ?_ (fun _ => ?_))
def site_conductor.T1 : Bool × List (List Nat × List Nat) := (true, [([], []), ([0], [0]), ([], []), ([2], [2]), ([], []), ([], []), ([4, 1, 0, 1, 4, 5], [1, 4]), ([5, 3, 6, 0, 1, 2, 3, 4, 5, 6], [3, 5])])
def site_conductor.B1 : List Nat := [0, 1, 0, 4, 0, 0, 51, 127]
theorem site_conductor.tab1 : rtab .any (opsOf Try.f42 1) = site_conductor.T1 := by kernel_rfl
theorem site_conductor.bits1 : waitsOk site_conductor.T1.2 site_conductor.B1 = true := by kernel_rfl
set_option maxHeartbeats 8000000 in
set_option maxRecDepth 100000 in
theorem site_conductor.calls (k : Nat) (a0_0 : ByteArray) (a0_1 : Int) (a0_2 : Int) (a0_3 : Int) (a0_4 : Int) (a0_5 : Int) (a0_6 : Int) (a0_7 : Int) (a0_8 : Int) (a0_9 : Int) (a0_10 : Int) (a1 : Int) (r : Bool) (w : World) (h : site_conductor.f k a0_0 a0_1 a0_2 a0_3 a0_4 a0_5 a0_6 a0_7 a0_8 a0_9 a0_10 a1 = some r) :
    Calls Try.prog 42 #[.agg #[.string a0_0, .int .i64 a0_1, .int .i64 a0_2, .int .i64 a0_3, .int .i64 a0_4, .int .i64 a0_5, .int .i64 a0_6, .int .i64 a0_7, .int .i64 a0_8, .int .i64 a0_9, .int .i64 a0_10], .int .i64 a1] w fun e w' => e = .returned (.bool r) ∧ Below w.heap.size w w' := by
 have hu48 := Try.underlying48
 have hu44 := Try.underlying44
 have hu46 := Try.underlying46
 have HB := Aside0.mk (Below.refl w.heap.size w)
 (try unfold site_conductor.f at h)
 have H := h
 clear h
 have HC3 := Aside0.mk H
 clear H
 go_enter Try.func42, Try.ntmps42
 try go_wp2_with (first | ((with_reducible refine gate_dst (N := 2) rfl ?_); refine bE 2 48 #[.string a0_0, .int .i64 a0_1, .int .i64 a0_2, .int .i64 a0_3, .int .i64 a0_4, .int .i64 a0_5, .int .i64 a0_6, .int .i64 a0_7, .int .i64 a0_8, .int .i64 a0_9, .int .i64 a0_10] ?_; intro gb105 hg w4 hbox hb; have BK105 := Aside0.mk hbox; have GW105 := gE hg (kB HB); have GE105 := gE hg (kB HB); replace HB := bS (kB HB) hb; clear hb hbox hg))
 replace BK105 := Aside0.mk (blk_drew BK105.out)
 replace HB := Aside0.mk (below_drew1 HB.out)
 refine start_ (n := 8) (S := fun w' => w'.cell? ⟨gb105, 0, none⟩ = some (.string a0_0) ∧ w'.cell? ⟨gb105, 1, none⟩ = some (.int .i64 a0_1) ∧ w'.cell? ⟨gb105, 2, none⟩ = some (.int .i64 a0_2) ∧ w'.cell? ⟨gb105, 3, none⟩ = some (.int .i64 a0_3) ∧ w'.cell? ⟨gb105, 4, none⟩ = some (.int .i64 a0_4) ∧ w'.cell? ⟨gb105, 5, none⟩ = some (.int .i64 a0_5) ∧ w'.cell? ⟨gb105, 6, none⟩ = some (.int .i64 a0_6) ∧ w'.cell? ⟨gb105, 7, none⟩ = some (.int .i64 a0_7) ∧ w'.cell? ⟨gb105, 8, none⟩ = some (.int .i64 a0_8) ∧ w'.cell? ⟨gb105, 9, none⟩ = some (.int .i64 a0_9) ∧ w'.cell? ⟨gb105, 10, none⟩ = some (.int .i64 a0_10)) (ds := []) #[false, false, false, false, false, false, false, false] (by kernel_rfl) rfl rfl ⟨(blk_cell BK105.out 0).trans rfl, (blk_cell BK105.out 1).trans rfl, (blk_cell BK105.out 2).trans rfl, (blk_cell BK105.out 3).trans rfl, (blk_cell BK105.out 4).trans rfl, (blk_cell BK105.out 5).trans rfl, (blk_cell BK105.out 6).trans rfl, (blk_cell BK105.out 7).trans rfl, (blk_cell BK105.out 8).trans rfl, (blk_cell BK105.out 9).trans rfl, (blk_cell BK105.out 10).trans rfl⟩ (fun hHeld => ?_); refine with_tabW site_conductor.tab1 site_conductor.bits1 (fun HT_ HW_ => ?_)
 generalize w4.drew = w5 at BK105 HB hHeld ⊢
 refine pS 0 (some 10) HT_ ?_
 refine pS 2 (some 12) HT_ ?_
 refine tS 1 (some 11) HT_ HW_ hHeld ?_
 refine tS 3 (some 13) HT_ HW_ hHeld ?_
 refine join_ (σ := Nat × Nat) 2 #[true, true, true, true, true, true, false, false] (fun s_ => [(5, .pointer (some ⟨s_.1, 0, none⟩)), (6, .pointer (some ⟨s_.2, 0, none⟩))]) (fun s_ w' => (w'.cell? ⟨gb105, 0, none⟩ = some (.string a0_0) ∧ w'.cell? ⟨gb105, 1, none⟩ = some (.int .i64 a0_1) ∧ w'.cell? ⟨gb105, 2, none⟩ = some (.int .i64 a0_2) ∧ w'.cell? ⟨gb105, 3, none⟩ = some (.int .i64 a0_3) ∧ w'.cell? ⟨gb105, 4, none⟩ = some (.int .i64 a0_4) ∧ w'.cell? ⟨gb105, 5, none⟩ = some (.int .i64 a0_5) ∧ w'.cell? ⟨gb105, 6, none⟩ = some (.int .i64 a0_6) ∧ w'.cell? ⟨gb105, 7, none⟩ = some (.int .i64 a0_7) ∧ w'.cell? ⟨gb105, 8, none⟩ = some (.int .i64 a0_8) ∧ w'.cell? ⟨gb105, 9, none⟩ = some (.int .i64 a0_9) ∧ w'.cell? ⟨gb105, 10, none⟩ = some (.int .i64 a0_10)) ∧ (w'.heap[gb105]? = some (.cells #[.string a0_0, .int .i64 a0_1, .int .i64 a0_2, .int .i64 a0_3, .int .i64 a0_4, .int .i64 a0_5, .int .i64 a0_6, .int .i64 a0_7, .int .i64 a0_8, .int .i64 a0_9, .int .i64 a0_10] 48 (0, 0))) ∧ (w'.heap[s_.1]? = some (.cells #[.int .i64 0, .int .i64 0] 44 (0, 0))) ∧ (w'.heap[s_.2]? = some (.cells #[.int .i64 0, .int .i64 0, .int .i64 0, .int .i64 0, .int .i64 0] 46 (0, 0))) ∧ (w.heap.size ≤ s_.1) ∧ (w.heap.size ≤ s_.1) ∧ (gb105 ≠ s_.1) ∧ (s_.1 ≠ gb105) ∧ (s_.2 ≠ s_.1) ∧ (s_.1 ≠ s_.2) ∧ (w.heap.size ≤ s_.2) ∧ (w.heap.size ≤ s_.2) ∧ (gb105 ≠ s_.2) ∧ (s_.2 ≠ gb105) ∧ (Below w.heap.size w w')) ?_ ?_
 rotate_left
 ·intro hCont
  refine two_ (i := 4) (j := 5) (Ni := some 5) (Nj := some 6) #[true, true, true, true, true, false, false, false] #[true, true, true, true, false, true, false, false] rfl rfl rfl rfl (two_of HT_.out (by kernel_rfl)) (by decide) (by decide) (fun K hK => ?_) (fun K hK => ?_)
  ·skip
   refine box_step ?hg (N := 5) ?hd (cs := #[.int .i64 0, .int .i64 0]) (t := 44) ?hr ?_; (case hd => rfl); (case hg => rfl); (case hr => first | (go_simp; done) | (go_simp; rfl))
   intro gb106 hg w6 hbox hb
   have BK106 := Aside0.mk hbox
   have GW106 := gE hg (kB1 HB GE105)
   have GE106 := gE hg (kB1 HB GE105)
   replace HB := bS (kB1 HB GE105) hb
   have NB105_106 := nL hg BK105
   have NB106_105 := nG hg BK105
   replace BK105 := bK BK105 hb
   clear hb hbox hg
   refine hK.out _ _ (tH trivial) (fun hHeld => ?_)
   clear hK K
   refine norm_ (a' := ?_) ?_ ?_
   rotate_left
   ·show Act.put _ (some 5) _ = _
    simp only [Act.put, List.setIfInBounds_toArray, List.set_cons_zero, List.set_cons_succ, i64_w, i32_w]
    rfl
   refine oS 5 (some 6) HT_ (fun K hK => ?_)
   refine box_step ?hg (N := 6) ?hd (cs := #[.int .i64 0, .int .i64 0, .int .i64 0, .int .i64 0, .int .i64 0]) (t := 46) ?hr ?_; (case hd => rfl); (case hg => rfl); (case hr => first | (go_simp; done) | (go_simp; rfl))
   intro gb107 hg w7 hbox hb
   have BK107 := Aside0.mk hbox
   have GW107 := gE hg (kB2 HB GE105 GE106)
   have GE107 := gE hg (kB2 HB GE105 GE106)
   replace HB := bS (kB2 HB GE105 GE106) hb
   have NB105_107 := nL hg BK105
   have NB107_105 := nG hg BK105
   replace BK105 := bK BK105 hb
   have NB106_107 := nL hg BK106
   have NB107_106 := nG hg BK106
   replace BK106 := bK BK106 hb
   clear hb hbox hg
   refine hK.out _ _ (tH trivial) (fun hHeld => ?_)
   clear hK K
   refine norm_ (a' := ?_) ?_ ?_
   rotate_left
   ·show Act.put _ (some 6) _ = _
    simp only [Act.put, List.setIfInBounds_toArray, List.set_cons_zero, List.set_cons_succ, i64_w, i32_w]
    rfl
   exact norm_ (by simp only [putAll, Act.put, List.setIfInBounds_toArray, List.set_cons_zero, List.set_cons_succ]) (hCont (gb106, gb107) _ ⟨hHeld, (kK BK105), (kK BK106), (kK BK107), GW106.out, GE106.out, NB105_106.out, NB106_105.out, NB107_106.out, NB106_107.out, GW107.out, GE107.out, NB105_107.out, NB107_105.out, (kB3 HB GE105 GE106 GE107)⟩)
  skip
  refine box_step ?hg (N := 6) ?hd (cs := #[.int .i64 0, .int .i64 0, .int .i64 0, .int .i64 0, .int .i64 0]) (t := 46) ?hr ?_; (case hd => rfl); (case hg => rfl); (case hr => first | (go_simp; done) | (go_simp; rfl))
  intro gb107 hg w6 hbox hb
  have BK107 := Aside0.mk hbox
  have GW107 := gE hg (kB1 HB GE105)
  have GE107 := gE hg (kB1 HB GE105)
  replace HB := bS (kB1 HB GE105) hb
  have NB105_107 := nL hg BK105
  have NB107_105 := nG hg BK105
  replace BK105 := bK BK105 hb
  clear hb hbox hg
  refine hK.out _ _ (tH trivial) (fun hHeld => ?_)
  clear hK K
  refine norm_ (a' := ?_) ?_ ?_
  rotate_left
  ·show Act.put _ (some 6) _ = _
   simp only [Act.put, List.setIfInBounds_toArray, List.set_cons_zero, List.set_cons_succ, i64_w, i32_w]
   rfl
  refine oS 4 (some 5) HT_ (fun K hK => ?_)
  refine box_step ?hg (N := 5) ?hd (cs := #[.int .i64 0, .int .i64 0]) (t := 44) ?hr ?_; (case hd => rfl); (case hg => rfl); (case hr => first | (go_simp; done) | (go_simp; rfl))
  intro gb106 hg w7 hbox hb
  have BK106 := Aside0.mk hbox
  have GW106 := gE hg (kB2 HB GE105 GE107)
  have GE106 := gE hg (kB2 HB GE105 GE107)
  replace HB := bS (kB2 HB GE105 GE107) hb
  have NB105_106 := nL hg BK105
  have NB106_105 := nG hg BK105
  replace BK105 := bK BK105 hb
  have NB107_106 := nL hg BK107
  have NB106_107 := nG hg BK107
  replace BK107 := bK BK107 hb
  clear hb hbox hg
  refine hK.out _ _ (tH trivial) (fun hHeld => ?_)
  clear hK K
  refine norm_ (a' := ?_) ?_ ?_
  rotate_left
  ·show Act.put _ (some 5) _ = _
   simp only [Act.put, List.setIfInBounds_toArray, List.set_cons_zero, List.set_cons_succ, i64_w, i32_w]
   rfl
  exact norm_ (by simp only [putAll, Act.put, List.setIfInBounds_toArray, List.set_cons_zero, List.set_cons_succ]) (hCont (gb106, gb107) _ ⟨hHeld, (kK BK105), (kK BK106), (kK BK107), GW106.out, GE106.out, NB105_106.out, NB106_105.out, NB107_106.out, NB106_107.out, GW107.out, GE107.out, NB105_107.out, NB107_105.out, (kB3 HB GE105 GE107 GE106)⟩)
 rintro ⟨gb106, gb107⟩ w8 ⟨hS_, h0_, h1_, h2_, h3_, h4_, h5_, h6_, h7_, h8_, h9_, h10_, h11_, h12_, h13_⟩
 have n0_ : Aside0 (w8.heap[gb105]? = some (.cells #[.string a0_0, .int .i64 a0_1, .int .i64 a0_2, .int .i64 a0_3, .int .i64 a0_4, .int .i64 a0_5, .int .i64 a0_6, .int .i64 a0_7, .int .i64 a0_8, .int .i64 a0_9, .int .i64 a0_10] 48 (0, 0))) := ⟨h0_⟩
 have n1_ : Aside0 (w8.heap[gb106]? = some (.cells #[.int .i64 0, .int .i64 0] 44 (0, 0))) := ⟨h1_⟩
 have n2_ : Aside0 (w8.heap[gb107]? = some (.cells #[.int .i64 0, .int .i64 0, .int .i64 0, .int .i64 0, .int .i64 0] 46 (0, 0))) := ⟨h2_⟩
 have n3_ : Aside0 (w.heap.size ≤ gb106) := ⟨h3_⟩
 have n4_ : Aside0 (w.heap.size ≤ gb106) := ⟨h4_⟩
 have n5_ : Aside0 (gb105 ≠ gb106) := ⟨h5_⟩
 have n6_ : Aside0 (gb106 ≠ gb105) := ⟨h6_⟩
 have n7_ : Aside0 (gb107 ≠ gb106) := ⟨h7_⟩
 have n8_ : Aside0 (gb106 ≠ gb107) := ⟨h8_⟩
 have n9_ : Aside0 (w.heap.size ≤ gb107) := ⟨h9_⟩
 have n10_ : Aside0 (w.heap.size ≤ gb107) := ⟨h10_⟩
 have n11_ : Aside0 (gb105 ≠ gb107) := ⟨h11_⟩
 have n12_ : Aside0 (gb107 ≠ gb105) := ⟨h12_⟩
 have n13_ : Aside0 (Below w.heap.size w w8) := ⟨h13_⟩
 clear BK105
 clear HB
 clear h0_ h1_ h2_ h3_ h4_ h5_ h6_ h7_ h8_ h9_ h10_ h11_ h12_ h13_
 have BK105 := n0_
 have BK106 := n1_
 have BK107 := n2_
 have GW106 := n3_
 have GE106 := n4_
 have NB105_106 := n5_
 have NB106_105 := n6_
 have NB107_106 := n7_
 have NB106_107 := n8_
 have GW107 := n9_
 have GE107 := n10_
 have NB105_107 := n11_
 have NB107_105 := n12_
 have HB := n13_
 clear n0_ n1_ n2_ n3_ n4_ n5_ n6_ n7_ n8_ n9_ n10_ n11_ n12_ n13_
 have hHeld : w8.cell? ⟨gb105, 0, none⟩ = some (.string a0_0) ∧ w8.cell? ⟨gb105, 1, none⟩ = some (.int .i64 a0_1) ∧ w8.cell? ⟨gb105, 2, none⟩ = some (.int .i64 a0_2) ∧ w8.cell? ⟨gb105, 3, none⟩ = some (.int .i64 a0_3) ∧ w8.cell? ⟨gb105, 4, none⟩ = some (.int .i64 a0_4) ∧ w8.cell? ⟨gb105, 5, none⟩ = some (.int .i64 a0_5) ∧ w8.cell? ⟨gb105, 6, none⟩ = some (.int .i64 a0_6) ∧ w8.cell? ⟨gb105, 7, none⟩ = some (.int .i64 a0_7) ∧ w8.cell? ⟨gb105, 8, none⟩ = some (.int .i64 a0_8) ∧ w8.cell? ⟨gb105, 9, none⟩ = some (.int .i64 a0_9) ∧ w8.cell? ⟨gb105, 10, none⟩ = some (.int .i64 a0_10) := hS_
 refine norm_ (a' := ?_) ?_ ?_
 rotate_left
 ·simp only [putAll, Act.put, List.setIfInBounds_toArray, List.set_cons_zero, List.set_cons_succ]
  rfl
 refine oS 6 none HT_ (fun K hK => ?_)
 have hs9 : w8.cell? ⟨gb106, 0, none⟩ = some (.int .i64 0) := (blk_cell BK106.out 0).trans rfl
 have hfs9 := blk_frozen BK106.out 0
 have hns9_0 := NB105_106.out
 have hns9_2 := NB107_106.out
 have hms9_0 := NB106_105.out
 have hms9_2 := NB106_107.out
 have hs10 : w8.cell? ⟨gb106, 1, none⟩ = some (.int .i64 0) := (blk_cell BK106.out 1).trans rfl
 have hfs10 := blk_frozen BK106.out 1
 have hns10_0 := NB105_106.out
 have hns10_2 := NB107_106.out
 have hms10_0 := NB106_105.out
 have hms10_2 := NB106_107.out
 refine skip_ (w1 := ?_) (by rfl) rfl ?_ ?_
 rotate_left
 ·go_simp
  rfl
 refine hK.out _ _ (tH hHeld) (fun hHeld => ?_)
 clear hK K
 refine oS 7 none HT_ (fun K hK => ?_)
 have hs11 : w8.cell? ⟨gb107, 0, none⟩ = some (.int .i64 0) := (blk_cell BK107.out 0).trans rfl
 have hfs11 := blk_frozen BK107.out 0
 have hns11_0 := NB105_107.out
 have hns11_1 := NB106_107.out
 have hms11_0 := NB107_105.out
 have hms11_1 := NB107_106.out
 have hs12 : w8.cell? ⟨gb107, 1, none⟩ = some (.int .i64 0) := (blk_cell BK107.out 1).trans rfl
 have hfs12 := blk_frozen BK107.out 1
 have hns12_0 := NB105_107.out
 have hns12_1 := NB106_107.out
 have hms12_0 := NB107_105.out
 have hms12_1 := NB107_106.out
 have hs13 : w8.cell? ⟨gb107, 2, none⟩ = some (.int .i64 0) := (blk_cell BK107.out 2).trans rfl
 have hfs13 := blk_frozen BK107.out 2
 have hns13_0 := NB105_107.out
 have hns13_1 := NB106_107.out
 have hms13_0 := NB107_105.out
 have hms13_1 := NB107_106.out
 have hs14 : w8.cell? ⟨gb107, 3, none⟩ = some (.int .i64 0) := (blk_cell BK107.out 3).trans rfl
 have hfs14 := blk_frozen BK107.out 3
 have hns14_0 := NB105_107.out
 have hns14_1 := NB106_107.out
 have hms14_0 := NB107_105.out
 have hms14_1 := NB107_106.out
 have hs15 : w8.cell? ⟨gb107, 4, none⟩ = some (.int .i64 0) := (blk_cell BK107.out 4).trans rfl
 have hfs15 := blk_frozen BK107.out 4
 have hns15_0 := NB105_107.out
 have hns15_1 := NB106_107.out
 have hms15_0 := NB107_105.out
 have hms15_1 := NB107_106.out
 refine skip_ (w1 := ?_) (by rfl) rfl ?_ ?_
 rotate_left
 ·go_simp
  rfl
 refine hK.out _ _ (tH hHeld) (fun hHeld => ?_)
 clear hK K
 refine done_ (done_of HT_.out (by kernel_rfl)) ?_
 go_upto_region 2 with (fail)
 go_cut [7] (fun v7 wc => ∃ (kq : Nat) (x7_2 : Bool), v7 = .bool x7_2 ∧ Aside0 (site_conductor.j0 kq a1 x7_2 a0_0 a0_1 a0_2 a0_3 a0_4 a0_5 a0_6 a0_7 a0_8 a0_9 a0_10 a0_6 a0_7 a0_8 a0_9 a0_10 = some r) ∧ Aside0 (kq ≤ k) ∧ Aside0 (wc.heap[gb105]? = some (.cells #[.string a0_0, .int .i64 a0_1, .int .i64 a0_2, .int .i64 a0_3, .int .i64 a0_4, .int .i64 a0_5, .int .i64 a0_6, .int .i64 a0_7, .int .i64 a0_8, .int .i64 a0_9, .int .i64 a0_10] 48 (0, 0))) ∧ Aside0 (wc.heap[gb106]? = some (.cells #[.int .i64 a0_4, .int .i64 a0_5] 44 (0, 0))) ∧ Aside0 (wc.heap[gb107]? = some (.cells #[.int .i64 a0_6, .int .i64 a0_7, .int .i64 a0_8, .int .i64 a0_9, .int .i64 a0_10] 46 (0, 0))) ∧ Aside0 (Below w.heap.size w wc))
 case first =>
  have H := HC3.out
  clear HC3
  by_cases c16 : (a0_4 == 0 && (a0_5 == 0)) = true
  ·rw [if_pos c16] at H
   have c16b0 : (a0_4 == 0 && (a0_5 == 0)) = true := c16
   (try (have c16b1 : decide (a0_4 = 0 && (a0_5 == 0)) = true := by simpa using c16))
   (try (have c16b2 : (a0_4 == 0 && (a0_5 == 0)) = true := by simpa using c16))
   clear c16
   (first | rw [c16b0] | (simp only [i64_w, i32_w]; rw [c16b0]) | skip)
   have H' := Aside0.mk H
   clear H
   have hnb17 := NB106_105.out
   have hnc17 := NB105_106.out
   have hnb18 := NB106_107.out
   have hnc18 := NB107_106.out
   obtain ⟨⟨_,_⟩,_,_⟩ := bx2 BK106
   go_wp2
   go_meet
   case rel => exact ⟨_, (true), tQ, H', ⟨tN⟩, ⟨kN BK105⟩, ⟨kN BK106⟩, ⟨kN BK107⟩, ⟨kB3 HB GE105 GE106 GE107⟩⟩
  rw [if_neg c16] at H
  have c16b0 : (a0_4 == 0 && (a0_5 == 0)) = false := by simpa using c16
  (try (have c16b1 : decide (a0_4 = 0 && (a0_5 == 0)) = false := by simpa using c16))
  (try (have c16b2 : (a0_4 == 0 && (a0_5 == 0)) = false := by simpa using c16))
  (try (have c16b3 : ¬ (a0_4 = 0 && (a0_5 == 0)) := by simpa using c16))
  clear c16
  (first | rw [c16b0] | (simp only [i64_w, i32_w]; rw [c16b0]) | skip)
  obtain ⟨t108, A20, H⟩ := bnd H
  by_cases c21 : t108 = true
  rotate_left
  ·replace c21 := Bool.eq_false_iff.mpr c21
   subst c21
   replace H := ifF H
   have H' := Aside0.mk H
   clear H
   have hnb26 := NB106_105.out
   have hnc26 := NB105_106.out
   have hnb27 := NB106_107.out
   have hnc27 := NB107_106.out
   obtain ⟨⟨_,_⟩,_,_⟩ := bx2 BK106
   go_wp2_with (first | (go_at_call 38; (with_reducible refine (site_inside.calls a0_4 1 1000 false _ A20.out).mono ?_); rintro e w' ⟨rfl, ⟨nd, rfl⟩⟩))
   go_meet
   case rel => exact ⟨_, (false), tQ, H', ⟨tN⟩, ⟨kN BK105⟩, ⟨kN BK106⟩, ⟨kN BK107⟩, ⟨kB3 HB GE105 GE106 GE107⟩⟩
  subst c21
  replace H := ifT H
  obtain ⟨t109, A22, H⟩ := bnd H
  have H' := Aside0.mk H
  clear H
  have hnb23 := NB106_105.out
  have hnc23 := NB105_106.out
  have hnb24 := NB106_107.out
  have hnc24 := NB107_106.out
  obtain ⟨⟨_,_⟩,_,_⟩ := bx2 BK106
  go_wp2_with (first | (go_at_call 38; (with_reducible refine (site_inside.calls a0_4 1 1000 true _ A20.out).mono ?_); rintro e w' ⟨rfl, ⟨nd, rfl⟩⟩) | (go_at_call 38; (with_reducible refine (site_inside.calls a0_5 0 1000000 t109 _ A22.out).mono ?_); rintro e w' ⟨rfl, ⟨nd, rfl⟩⟩))
  go_meet
  case rel => exact ⟨_, (t109), tQ, H', ⟨tN⟩, ⟨kN BK105⟩, ⟨kN BK106⟩, ⟨kN BK107⟩, ⟨kB3 HB GE105 GE106 GE107⟩⟩
 case rest =>
  clear HC3
  obtain ⟨kq, x7_2, rfl, HA, HJ2, BK105, BK106, BK107, HB⟩ := hcut
  cases kq with
  | zero => exact absurd HA.out (by simp [site_conductor.j0])
  | succ kj2 =>
   have H := HA.out
   clear HA
   simp only [site_conductor.j0] at H
   have HC29 := Aside0.mk H
   clear H
   go_upto_region 3 with (fail)
   go_cut [8] (fun v8 wc => ∃ (kq : Nat) (x8_28 : Bool), v8 = .bool x8_28 ∧ Aside0 (site_conductor.j1 kq a1 x7_2 x8_28 a0_0 a0_1 a0_2 a0_3 a0_4 a0_5 a0_6 a0_7 a0_8 a0_9 a0_10 = some r) ∧ Aside0 (kq ≤ kj2) ∧ Aside0 (wc.heap[gb105]? = some (.cells #[.string a0_0, .int .i64 a0_1, .int .i64 a0_2, .int .i64 a0_3, .int .i64 a0_4, .int .i64 a0_5, .int .i64 a0_6, .int .i64 a0_7, .int .i64 a0_8, .int .i64 a0_9, .int .i64 a0_10] 48 (0, 0))) ∧ Aside0 (wc.heap[gb106]? = some (.cells #[.int .i64 a0_4, .int .i64 a0_5] 44 (0, 0))) ∧ Aside0 (wc.heap[gb107]? = some (.cells #[.int .i64 a0_6, .int .i64 a0_7, .int .i64 a0_8, .int .i64 a0_9, .int .i64 a0_10] 46 (0, 0))) ∧ Aside0 (Below w.heap.size w wc))
   case first =>
    have H := HC29.out
    clear HC29
    by_cases c30 : (a0_6 == 0 && (a0_7 == 0 && (a0_8 == 0 && (a0_9 == 0 && (a0_10 == 0))))) = true
    ·rw [if_pos c30] at H
     have c30b0 : (a0_6 == 0 && (a0_7 == 0 && (a0_8 == 0 && (a0_9 == 0 && (a0_10 == 0))))) = true := c30
     (try (have c30b1 : decide (a0_6 = 0 && (a0_7 == 0 && (a0_8 == 0 && (a0_9 == 0 && (a0_10 == 0))))) = true := by simpa using c30))
     (try (have c30b2 : (a0_6 == 0 && (a0_7 == 0 && (a0_8 == 0 && (a0_9 == 0 && (a0_10 == 0))))) = true := by simpa using c30))
     clear c30
     (first | rw [c30b0] | (simp only [i64_w, i32_w]; rw [c30b0]) | skip)
     have H' := Aside0.mk H
     clear H
     have hnb31 := NB107_105.out
     have hnc31 := NB105_107.out
     have hnb32 := NB107_106.out
     have hnc32 := NB106_107.out
     obtain ⟨⟨_,_,_,_,_⟩,_,_,_,_,_⟩ := bx5 BK107
     go_wp2
     go_meet
     case rel => exact ⟨_, (true), tQ, H', ⟨by have := HJ2.out; first | omega | exact Nat.le_refl _⟩, ⟨kK BK105⟩, ⟨kK BK106⟩, ⟨kK BK107⟩, ⟨kB3 HB GE105 GE106 GE107⟩⟩
    rw [if_neg c30] at H
    have c30b0 : (a0_6 == 0 && (a0_7 == 0 && (a0_8 == 0 && (a0_9 == 0 && (a0_10 == 0))))) = false := by simpa using c30
    (try (have c30b1 : decide (a0_6 = 0 && (a0_7 == 0 && (a0_8 == 0 && (a0_9 == 0 && (a0_10 == 0))))) = false := by simpa using c30))
    (try (have c30b2 : (a0_6 == 0 && (a0_7 == 0 && (a0_8 == 0 && (a0_9 == 0 && (a0_10 == 0))))) = false := by simpa using c30))
    (try (have c30b3 : ¬ (a0_6 = 0 && (a0_7 == 0 && (a0_8 == 0 && (a0_9 == 0 && (a0_10 == 0))))) := by simpa using c30))
    clear c30
    (first | rw [c30b0] | (simp only [i64_w, i32_w]; rw [c30b0]) | skip)
    obtain ⟨t110, A34, H⟩ := bnd H
    by_cases c35 : t110 = true
    rotate_left
    ·replace c35 := Bool.eq_false_iff.mpr c35
     subst c35
     replace H := ifF H
     have H' := Aside0.mk H
     clear H
     have hnb55 := NB107_105.out
     have hnc55 := NB105_107.out
     have hnb56 := NB107_106.out
     have hnc56 := NB106_107.out
     obtain ⟨⟨_,_,_,_,_⟩,_,_,_,_,_⟩ := bx5 BK107
     go_wp2_with (first | (go_at_call 38; (with_reducible refine (site_inside.calls a0_6 0 200000 false _ A34.out).mono ?_); rintro e w' ⟨rfl, ⟨nd, rfl⟩⟩))
     go_meet
     case rel => exact ⟨_, (false), tQ, H', ⟨by have := HJ2.out; first | omega | exact Nat.le_refl _⟩, ⟨kK BK105⟩, ⟨kK BK106⟩, ⟨kK BK107⟩, ⟨kB3 HB GE105 GE106 GE107⟩⟩
    subst c35
    replace H := ifT H
    obtain ⟨t111, A36, H⟩ := bnd H
    by_cases c37 : t111 = true
    rotate_left
    ·replace c37 := Bool.eq_false_iff.mpr c37
     subst c37
     replace H := ifF H
     have H' := Aside0.mk H
     clear H
     have hnb52 := NB107_105.out
     have hnc52 := NB105_107.out
     have hnb53 := NB107_106.out
     have hnc53 := NB106_107.out
     obtain ⟨⟨_,_,_,_,_⟩,_,_,_,_,_⟩ := bx5 BK107
     go_wp2_with (first | (go_at_call 38; (with_reducible refine (site_inside.calls a0_6 0 200000 true _ A34.out).mono ?_); rintro e w' ⟨rfl, ⟨nd, rfl⟩⟩) | (go_at_call 38; (with_reducible refine (site_inside.calls a0_7 (wrap64 (a0_6 + 1)) 200000 false _ A36.out).mono ?_); rintro e w' ⟨rfl, ⟨nd, rfl⟩⟩))
     go_meet
     case rel => exact ⟨_, (false), tQ, H', ⟨by have := HJ2.out; first | omega | exact Nat.le_refl _⟩, ⟨kK BK105⟩, ⟨kK BK106⟩, ⟨kK BK107⟩, ⟨kB3 HB GE105 GE106 GE107⟩⟩
    subst c37
    replace H := ifT H
    obtain ⟨t112, A38, H⟩ := bnd H
    by_cases c39 : t112 = true
    rotate_left
    ·replace c39 := Bool.eq_false_iff.mpr c39
     subst c39
     replace H := ifF H
     have H' := Aside0.mk H
     clear H
     have hnb49 := NB107_105.out
     have hnc49 := NB105_107.out
     have hnb50 := NB107_106.out
     have hnc50 := NB106_107.out
     obtain ⟨⟨_,_,_,_,_⟩,_,_,_,_,_⟩ := bx5 BK107
     go_wp2_with (first | (go_at_call 38; (with_reducible refine (site_inside.calls a0_6 0 200000 true _ A34.out).mono ?_); rintro e w' ⟨rfl, ⟨nd, rfl⟩⟩) | (go_at_call 38; (with_reducible refine (site_inside.calls a0_7 (wrap64 (a0_6 + 1)) 200000 true _ A36.out).mono ?_); rintro e w' ⟨rfl, ⟨nd, rfl⟩⟩) | (go_at_call 38; (with_reducible refine (site_inside.calls a0_8 0 1000 false _ A38.out).mono ?_); rintro e w' ⟨rfl, ⟨nd, rfl⟩⟩))
     go_meet
     case rel => exact ⟨_, (false), tQ, H', ⟨by have := HJ2.out; first | omega | exact Nat.le_refl _⟩, ⟨kK BK105⟩, ⟨kK BK106⟩, ⟨kK BK107⟩, ⟨kB3 HB GE105 GE106 GE107⟩⟩
    subst c39
    replace H := ifT H
    obtain ⟨t113, A40, H⟩ := bnd H
    by_cases c41 : t113 = true
    rotate_left
    ·replace c41 := Bool.eq_false_iff.mpr c41
     subst c41
     replace H := ifF H
     have H' := Aside0.mk H
     clear H
     have hnb46 := NB107_105.out
     have hnc46 := NB105_107.out
     have hnb47 := NB107_106.out
     have hnc47 := NB106_107.out
     obtain ⟨⟨_,_,_,_,_⟩,_,_,_,_,_⟩ := bx5 BK107
     go_wp2_with (first | (go_at_call 38; (with_reducible refine (site_inside.calls a0_6 0 200000 true _ A34.out).mono ?_); rintro e w' ⟨rfl, ⟨nd, rfl⟩⟩) | (go_at_call 38; (with_reducible refine (site_inside.calls a0_7 (wrap64 (a0_6 + 1)) 200000 true _ A36.out).mono ?_); rintro e w' ⟨rfl, ⟨nd, rfl⟩⟩) | (go_at_call 38; (with_reducible refine (site_inside.calls a0_8 0 1000 true _ A38.out).mono ?_); rintro e w' ⟨rfl, ⟨nd, rfl⟩⟩) | (go_at_call 38; (with_reducible refine (site_inside.calls a0_9 0 1000 false _ A40.out).mono ?_); rintro e w' ⟨rfl, ⟨nd, rfl⟩⟩))
     go_meet
     case rel => exact ⟨_, (false), tQ, H', ⟨by have := HJ2.out; first | omega | exact Nat.le_refl _⟩, ⟨kK BK105⟩, ⟨kK BK106⟩, ⟨kK BK107⟩, ⟨kB3 HB GE105 GE106 GE107⟩⟩
    subst c41
    replace H := ifT H
    obtain ⟨t114, A42, H⟩ := bnd H
    have H' := Aside0.mk H
    clear H
    have hnb43 := NB107_105.out
    have hnc43 := NB105_107.out
    have hnb44 := NB107_106.out
    have hnc44 := NB106_107.out
    obtain ⟨⟨_,_,_,_,_⟩,_,_,_,_,_⟩ := bx5 BK107
    go_wp2_with (first | (go_at_call 38; (with_reducible refine (site_inside.calls a0_6 0 200000 true _ A34.out).mono ?_); rintro e w' ⟨rfl, ⟨nd, rfl⟩⟩) | (go_at_call 38; (with_reducible refine (site_inside.calls a0_7 (wrap64 (a0_6 + 1)) 200000 true _ A36.out).mono ?_); rintro e w' ⟨rfl, ⟨nd, rfl⟩⟩) | (go_at_call 38; (with_reducible refine (site_inside.calls a0_8 0 1000 true _ A38.out).mono ?_); rintro e w' ⟨rfl, ⟨nd, rfl⟩⟩) | (go_at_call 38; (with_reducible refine (site_inside.calls a0_9 0 1000 true _ A40.out).mono ?_); rintro e w' ⟨rfl, ⟨nd, rfl⟩⟩) | (go_at_call 38; (with_reducible refine (site_inside.calls a0_10 1 1000000 t114 _ A42.out).mono ?_); rintro e w' ⟨rfl, ⟨nd, rfl⟩⟩))
    go_meet
    case rel => exact ⟨_, (t114), tQ, H', ⟨by have := HJ2.out; first | omega | exact Nat.le_refl _⟩, ⟨kK BK105⟩, ⟨kK BK106⟩, ⟨kK BK107⟩, ⟨kB3 HB GE105 GE106 GE107⟩⟩
   case rest =>
    clear HC29
    obtain ⟨kq, x8_28, rfl, HA, HJ28, BK105, BK106, BK107, HB⟩ := hcut
    cases kq with
    | zero => exact absurd HA.out (by simp [site_conductor.j1])
    | succ kj28 =>
     have H := HA.out
     clear HA
     simp only [site_conductor.j1] at H
     have HC58 := Aside0.mk H
     clear H
     go_upto_region 4 with (fail)
     go_cut [9] (fun v9 wc => ∃ (kq : Nat) (x9_57 : Bool), v9 = .bool x9_57 ∧ Aside0 (site_conductor.j2 kq x7_2 x8_28 x9_57 a0_0 a0_1 a0_2 a0_3 a0_4 a0_5 a0_6 a0_7 a0_8 a0_9 a0_10 = some r) ∧ Aside0 (kq ≤ kj28) ∧ Aside0 (wc.heap[gb105]? = some (.cells #[.string a0_0, .int .i64 a0_1, .int .i64 a0_2, .int .i64 a0_3, .int .i64 a0_4, .int .i64 a0_5, .int .i64 a0_6, .int .i64 a0_7, .int .i64 a0_8, .int .i64 a0_9, .int .i64 a0_10] 48 (0, 0))) ∧ Aside0 (wc.heap[gb106]? = some (.cells #[.int .i64 a0_4, .int .i64 a0_5] 44 (0, 0))) ∧ Aside0 (wc.heap[gb107]? = some (.cells #[.int .i64 a0_6, .int .i64 a0_7, .int .i64 a0_8, .int .i64 a0_9, .int .i64 a0_10] 46 (0, 0))) ∧ Aside0 (Below w.heap.size w wc))
     case first =>
      have H := HC58.out
      clear HC58
      by_cases c59 : a1 = 0
      rotate_left
      ·rw [if_neg c59] at H
       have c59b0 : (a1 == 0) = false := beq_eq_false_iff_ne.mpr c59
       have c59b1 : (a1 != 0) = true := bne_iff_ne.mpr c59
       (first | rw [c59b0] | (simp only [i64_w, i32_w]; rw [c59b0]) | skip)
       by_cases c72 : a1 > 0
       rotate_left
       ·rw [if_neg c72] at H
        have c72b0 : decide (0 < a1) = false := decide_eq_false c72
        clear c72
        have H' := Aside0.mk H
        clear H
        go_wp2
        go_meet
        case rel => exact ⟨_, (false), tQ, H', ⟨by have := HJ2.out; have := HJ28.out; first | omega | exact Nat.le_refl _⟩, ⟨kK BK105⟩, ⟨kK BK106⟩, ⟨kK BK107⟩, ⟨kB3 HB GE105 GE106 GE107⟩⟩
       rw [if_pos c72] at H
       have c72b0 : decide (0 < a1) = true := decide_eq_true c72
       clear c72
       obtain ⟨t116, A73, H⟩ := bnd H
       have H' := Aside0.mk H
       clear H
       have hnb74 := NB105_106.out
       have hnc74 := NB106_105.out
       have hnb75 := NB105_107.out
       have hnc75 := NB107_105.out
       obtain ⟨⟨_,_,_,_,_,_,_,_,_,_,_⟩,_,_,_,_,_,_,_,_,_,_,_⟩ := bx11 BK105
       go_wp2_with (first | (go_at_call 38; (with_reducible refine (site_inside.calls a0_1 0 (wrap64 (a1 - 1)) t116 _ A73.out).mono ?_); rintro e w' ⟨rfl, ⟨nd, rfl⟩⟩))
       go_meet
       case rel => exact ⟨_, (t116), tQ, H', ⟨by have := HJ2.out; have := HJ28.out; first | omega | exact Nat.le_refl _⟩, ⟨kK BK105⟩, ⟨kK BK106⟩, ⟨kK BK107⟩, ⟨kB3 HB GE105 GE106 GE107⟩⟩
      rw [if_pos c59] at H
      have c59b0 : (a1 == 0) = true := beq_iff_eq.mpr c59
      have c59b1 : (a1 != 0) = false := bne_eq_false_iff_eq.mpr c59
      clear c59
      (first | rw [c59b0] | (simp only [i64_w, i32_w]; rw [c59b0]) | skip)
      by_cases c60 : a0_1 = (-1)
      ·rw [if_pos c60] at H
       have c60b0 : (a0_1 == (-1)) = true := beq_iff_eq.mpr c60
       have c60b1 : (a0_1 != (-1)) = false := bne_eq_false_iff_eq.mpr c60
       clear c60
       have H' := Aside0.mk H
       clear H
       have hnb61 := NB105_106.out
       have hnc61 := NB106_105.out
       have hnb62 := NB105_107.out
       have hnc62 := NB107_105.out
       obtain ⟨⟨_,_,_,_,_,_,_,_,_,_,_⟩,_,_,_,_,_,_,_,_,_,_,_⟩ := bx11 BK105
       go_wp2
       go_meet
       case rel => exact ⟨_, (true), tQ, H', ⟨by have := HJ2.out; have := HJ28.out; first | omega | exact Nat.le_refl _⟩, ⟨kK BK105⟩, ⟨kK BK106⟩, ⟨kK BK107⟩, ⟨kB3 HB GE105 GE106 GE107⟩⟩
      rw [if_neg c60] at H
      have c60b0 : (a0_1 == (-1)) = false := beq_eq_false_iff_ne.mpr c60
      have c60b1 : (a0_1 != (-1)) = true := bne_iff_ne.mpr c60
      by_cases c64 : a1 > 0
      rotate_left
      ·rw [if_neg c64] at H
       have c64b0 : decide (0 < a1) = false := decide_eq_false c64
       clear c64
       have H' := Aside0.mk H
       clear H
       have hnb69 := NB105_106.out
       have hnc69 := NB106_105.out
       have hnb70 := NB105_107.out
       have hnc70 := NB107_105.out
       obtain ⟨⟨_,_,_,_,_,_,_,_,_,_,_⟩,_,_,_,_,_,_,_,_,_,_,_⟩ := bx11 BK105
       go_wp2
       go_meet
       case rel => exact ⟨_, (false), tQ, H', ⟨by have := HJ2.out; have := HJ28.out; first | omega | exact Nat.le_refl _⟩, ⟨kK BK105⟩, ⟨kK BK106⟩, ⟨kK BK107⟩, ⟨kB3 HB GE105 GE106 GE107⟩⟩
      rw [if_pos c64] at H
      have c64b0 : decide (0 < a1) = true := decide_eq_true c64
      clear c64
      obtain ⟨t115, A65, H⟩ := bnd H
      have H' := Aside0.mk H
      clear H
      have hnb66 := NB105_106.out
      have hnc66 := NB106_105.out
      have hnb67 := NB105_107.out
      have hnc67 := NB107_105.out
      obtain ⟨⟨_,_,_,_,_,_,_,_,_,_,_⟩,_,_,_,_,_,_,_,_,_,_,_⟩ := bx11 BK105
      go_wp2_with (first | (go_at_call 38; (with_reducible refine (site_inside.calls a0_1 0 (wrap64 (a1 - 1)) t115 _ A65.out).mono ?_); rintro e w' ⟨rfl, ⟨nd, rfl⟩⟩))
      go_meet
      case rel => exact ⟨_, (t115), tQ, H', ⟨by have := HJ2.out; have := HJ28.out; first | omega | exact Nat.le_refl _⟩, ⟨kK BK105⟩, ⟨kK BK106⟩, ⟨kK BK107⟩, ⟨kB3 HB GE105 GE106 GE107⟩⟩
     case rest =>
      clear HC58
      obtain ⟨kq, x9_57, rfl, HA, HJ57, BK105, BK106, BK107, HB⟩ := hcut
      cases kq with
      | zero => exact absurd HA.out (by simp [site_conductor.j2])
      | succ kj57 =>
       have H := HA.out
       clear HA
       simp only [site_conductor.j2] at H
       have HC77 := Aside0.mk H
       clear H
       go_upto_region 5 with (fail)
       go_cut [4] (fun v4 wc => ∃ (kq : Nat) (x4_76 : Bool), v4 = .bool x4_76 ∧ Aside0 (site_conductor.j3 kq x4_76 = some r) ∧ Aside0 (kq ≤ kj57) ∧ Aside0 (wc.heap[gb105]? = some (.cells #[.string a0_0, .int .i64 a0_1, .int .i64 a0_2, .int .i64 a0_3, .int .i64 a0_4, .int .i64 a0_5, .int .i64 a0_6, .int .i64 a0_7, .int .i64 a0_8, .int .i64 a0_9, .int .i64 a0_10] 48 (0, 0))) ∧ Aside0 (wc.heap[gb106]? = some (.cells #[.int .i64 a0_4, .int .i64 a0_5] 44 (0, 0))) ∧ Aside0 (wc.heap[gb107]? = some (.cells #[.int .i64 a0_6, .int .i64 a0_7, .int .i64 a0_8, .int .i64 a0_9, .int .i64 a0_10] 46 (0, 0))) ∧ Aside0 (Below w.heap.size w wc))
       case first =>
        have H := HC77.out
        clear HC77
        by_cases c78 : x9_57 = true
        rotate_left
        ·replace c78 := Bool.eq_false_iff.mpr c78
         subst c78
         replace H := ifF H
         have H' := Aside0.mk H
         clear H
         go_wp2
         go_meet
         case rel => exact ⟨_, (false), tQ, H', ⟨by have := HJ2.out; have := HJ28.out; have := HJ57.out; first | omega | exact Nat.le_refl _⟩, ⟨kK BK105⟩, ⟨kK BK106⟩, ⟨kK BK107⟩, ⟨kB3 HB GE105 GE106 GE107⟩⟩
        subst c78
        replace H := ifT H
        by_cases c79 : x7_2 = true
        rotate_left
        ·replace c79 := Bool.eq_false_iff.mpr c79
         subst c79
         replace H := ifF H
         have H' := Aside0.mk H
         clear H
         go_wp2
         go_meet
         case rel => exact ⟨_, (false), tQ, H', ⟨by have := HJ2.out; have := HJ28.out; have := HJ57.out; first | omega | exact Nat.le_refl _⟩, ⟨kK BK105⟩, ⟨kK BK106⟩, ⟨kK BK107⟩, ⟨kB3 HB GE105 GE106 GE107⟩⟩
        subst c79
        replace H := ifT H
        by_cases c80 : x8_28 = true
        rotate_left
        ·replace c80 := Bool.eq_false_iff.mpr c80
         subst c80
         replace H := ifF H
         have H' := Aside0.mk H
         clear H
         go_wp2
         go_meet
         case rel => exact ⟨_, (false), tQ, H', ⟨by have := HJ2.out; have := HJ28.out; have := HJ57.out; first | omega | exact Nat.le_refl _⟩, ⟨kK BK105⟩, ⟨kK BK106⟩, ⟨kK BK107⟩, ⟨kB3 HB GE105 GE106 GE107⟩⟩
        subst c80
        replace H := ifT H
        obtain ⟨t117, A81, H⟩ := bnd H
        by_cases c82 : t117 = true
        rotate_left
        ·replace c82 := Bool.eq_false_iff.mpr c82
         subst c82
         replace H := ifF H
         have H' := Aside0.mk H
         clear H
         have hnb87 := NB105_106.out
         have hnc87 := NB106_105.out
         have hnb88 := NB105_107.out
         have hnc88 := NB107_105.out
         obtain ⟨⟨_,_,_,_,_,_,_,_,_,_,_⟩,_,_,_,_,_,_,_,_,_,_,_⟩ := bx11 BK105
         go_wp2_with (first | (go_at_call 38; (with_reducible refine (site_inside.calls a0_2 1 1000 false _ A81.out).mono ?_); rintro e w' ⟨rfl, ⟨nd, rfl⟩⟩))
         go_meet
         case rel => exact ⟨_, (false), tQ, H', ⟨by have := HJ2.out; have := HJ28.out; have := HJ57.out; first | omega | exact Nat.le_refl _⟩, ⟨kK BK105⟩, ⟨kK BK106⟩, ⟨kK BK107⟩, ⟨kB3 HB GE105 GE106 GE107⟩⟩
        subst c82
        replace H := ifT H
        obtain ⟨t118, A83, H⟩ := bnd H
        have H' := Aside0.mk H
        clear H
        have hnb84 := NB105_106.out
        have hnc84 := NB106_105.out
        have hnb85 := NB105_107.out
        have hnc85 := NB107_105.out
        obtain ⟨⟨_,_,_,_,_,_,_,_,_,_,_⟩,_,_,_,_,_,_,_,_,_,_,_⟩ := bx11 BK105
        go_wp2_with (first | (go_at_call 38; (with_reducible refine (site_inside.calls a0_2 1 1000 true _ A81.out).mono ?_); rintro e w' ⟨rfl, ⟨nd, rfl⟩⟩) | (go_at_call 38; (with_reducible refine (site_inside.calls a0_3 1 1000 t118 _ A83.out).mono ?_); rintro e w' ⟨rfl, ⟨nd, rfl⟩⟩))
        go_meet
        case rel => exact ⟨_, (t118), tQ, H', ⟨by have := HJ2.out; have := HJ28.out; have := HJ57.out; first | omega | exact Nat.le_refl _⟩, ⟨kK BK105⟩, ⟨kK BK106⟩, ⟨kK BK107⟩, ⟨kB3 HB GE105 GE106 GE107⟩⟩
       case rest =>
        clear HC77
        obtain ⟨kq, x4_76, rfl, HA, HJ76, BK105, BK106, BK107, HB⟩ := hcut
        cases kq with
        | zero => exact absurd HA.out (by simp [site_conductor.j3])
        | succ kj76 =>
         have H := HA.out
         clear HA
         simp only [site_conductor.j3] at H
         obtain rfl := Option.some.inj H
         go_wp2
         go_ret
         exact ⟨tE, kB3 HB GE105 GE106 GE107⟩
end Go.Proofs.Ytpdmnineampimaa.Q
