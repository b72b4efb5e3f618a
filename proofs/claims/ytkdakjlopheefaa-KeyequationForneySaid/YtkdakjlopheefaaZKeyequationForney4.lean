/- Proved: for every input the law KeyequationForney returns true and leaves its arguments as they were; no conditions. Part 5 of 6 of the proof. -/
import Derived.Test.YtkdakjlopheefaaZKeyequationForney3
set_option linter.unusedSectionVars false
set_option linter.unusedSimpArgs false
set_option linter.unusedVariables false
section
namespace Go.Proofs.Ytkdakjlopheefaa.PA
open Go.RowKit Go.Proofs.YtkdakjlopheefaaW.PrintWords Go.Proofs.YtkdakjlopheefaaW.PrintLast Go.Proofs.YtkdakjlopheefaaW.PrintMore
attribute [local go_sem] max2_int min2_int max_two min_two max_three min_three max_four min_four
set_option linter.unusedVariables false
set_option linter.unusedSimpArgs false
def codewrightref04_Inv.l0 : Nat → Int → Int → Int → Int → List Int → Option (Int)
 | 0, _, _, _, _, _ => none
 | k + 1, x1, x5, x684000, x684001, x684002 => (codewrightref04_Order.f k x684000 x684001 x684002).bind fun t684 => (if x5 < t684 then ((codewrightref04_Mul.f k x684000 x684001 x684002 x1 x5).bind fun t685 => (if t685 = 1 then (some x5) else (codewrightref04_Inv.l0 k x1 (wrap64 (x5 + 1)) x684000 x684001 x684002))) else (some 0))
def codewrightref04_Inv.f (k : Nat) (a0_0 : Int) (a0_1 : Int) (l0_2 : List Int) (a1 : Int) : Option (Int) := codewrightref04_Inv.l0 k a1 1 a0_0 a0_1 l0_2
set_option maxHeartbeats 8000000 in
set_option maxRecDepth 100000 in
theorem codewrightref04_Inv.calls (k : Nat) (a0_0 : Int) (a0_1 : Int) (A0_2 : Option Addr) (c0_2 : Nat) (l0_2 : List Int) (a1 : Int) (r : Int) (w : World) (hr0_2 : Kd.C (Kd.int .i64) w A0_2 l0_2.length l0_2) (hc0_2 : l0_2.length ≤ c0_2) (h : codewrightref04_Inv.f k a0_0 a0_1 l0_2 a1 = some r) :
  Calls Try.prog 64 #[.agg #[.int .i64 a0_0, .int .i64 a0_1, .slice A0_2 l0_2.length c0_2], .int .i64 a1] w fun e w' => e = .returned (.int .i64 r) ∧ Below w.heap.size w w' := by
 have hu24 := Try.underlying24
 have HR0_2 := Aside0.mk hr0_2
 have HC0_2 := Aside0.mk hc0_2
 clear hr0_2 hc0_2
 have HB := Aside0.mk (Below.refl w.heap.size w)
 have H : (codewrightref04_Inv.l0 k a1 1 a0_0 a0_1 l0_2) = some r := h
 clear h
 have H' := Aside0.mk H
 clear H
 go_enter Try.func64, Try.ntmps64
 go_wp2_with (((with_reducible refine gate_dst (N := 2) rfl ?_); refine box_event ?hg (N := 2) ?hd (cs := #[.int .i64 a0_0, .int .i64 a0_1, .slice A0_2 l0_2.length c0_2]) (t := 24) ?hr ?_; (case hd => rfl); (case hg => rfl); (case hr => (go_simp; done)); intro gb683 hg w3 hbox hb; have n0_ := Aside0.mk (below_step HB.out hb); have n1_ := Aside0.mk (hbox); have n2_ := Aside0.mk ((by rw [hg]; exact (below_size HB.out) : w.heap.size ≤ gb683)); have n3_ := Aside0.mk ((by rw [hg]; exact (below_size HB.out) : w.heap.size ≤ gb683)); clear HB; have HB := n0_; have BK683 := n1_; have GW683 := n2_; have GE683 := n3_; clear n0_ n1_ n2_ n3_; clear hb hbox hg))
 go_loopg [5] k (fun kq v5 w' => ∃ (x5_1 : Int), v5 = .int .i64 x5_1 ∧ Aside0 (codewrightref04_Inv.l0 kq a1 x5_1 a0_0 a0_1 l0_2 = some r) ∧ Aside0 (kq ≤ k) ∧ Aside0 (w'.heap[gb683]? = some (.cells #[.int .i64 a0_0, .int .i64 a0_1, (.slice A0_2 l0_2.length c0_2)] 24 (0, 0))) ∧ Aside0 (Below w.heap.size w w'))
 case atStart => exact ⟨(1), (by rfl), H', ⟨Nat.le_refl _⟩, ⟨BK683.out⟩, ⟨HB.out⟩⟩
 case round =>
  clear H'
  obtain ⟨x5_1, rfl, HA, HK1, BK683, HB⟩ := hrel
  cases gk with
  | zero => exact absurd HA.out (by simp [codewrightref04_Inv.l0])
  | succ k1 =>
   have H := HA.out
   clear HA
   simp only [codewrightref04_Inv.l0] at H
   obtain ⟨t684, A40, H⟩ := Option.bind_eq_some_iff.mp H
   replace H : (if x5_1 < t684 then ((codewrightref04_Mul.f k1 a0_0 a0_1 l0_2 a1 x5_1).bind fun t685 => (if t685 = 1 then (some x5_1) else (codewrightref04_Inv.l0 k1 a1 (wrap64 (x5_1 + 1)) a0_0 a0_1 l0_2))) else (some 0)) = some r := H
   have A4 := Aside0.mk A40
   clear A40
   by_cases c5 : x5_1 < t684
   ·rw [if_pos c5] at H
    have c5b0 : decide (x5_1 < t684) = true := decide_eq_true c5
    clear c5
    obtain ⟨t685, A60, H⟩ := Option.bind_eq_some_iff.mp H
    replace H : (if t685 = 1 then (some x5_1) else (codewrightref04_Inv.l0 k1 a1 (wrap64 (x5_1 + 1)) a0_0 a0_1 l0_2)) = some r := H
    have A6 := Aside0.mk A60
    clear A60
    by_cases c7 : t685 = 1
    ·rw [if_pos c7] at H
     have c7b0 : (t685 == 1) = true := beq_iff_eq.mpr c7
     have c7b1 : (t685 != 1) = false := bne_eq_false_iff_eq.mpr c7
     clear c7
     obtain rfl := Option.some.inj H
     have hcz8_0 : wr.cell? ⟨gb683, 0, none⟩ = some (.int .i64 a0_0) := (blk_cell BK683.out 0).trans rfl
     have hcz8_1 : wr.cell? ⟨gb683, 1, none⟩ = some (.int .i64 a0_1) := (blk_cell BK683.out 1).trans rfl
     have hcz8_2 : wr.cell? ⟨gb683, 2, none⟩ = some (.slice A0_2 l0_2.length c0_2) := (blk_cell BK683.out 2).trans rfl
     have hfz8_0 := blk_frozen BK683.out 0
     have hfz8_1 := blk_frozen BK683.out 1
     have hfz8_2 := blk_frozen BK683.out 2
     go_wp2_with (first | ((with_reducible refine gate_callee (f := 71) rfl ?_); refine goesL_ (some 8) rfl rfl Try.func71 (by kernel_rfl) rfl #[.agg #[.int .i64 a0_0, .int .i64 a0_1, .slice A0_2 l0_2.length c0_2]] rfl (by ((simp only [List.map_toArray, List.map_cons, List.map_nil])); (rfl)) ?_; (with_reducible refine (codewrightref04_Order.calls k1 a0_0 a0_1 _ _ l0_2 t684 _ ?side1 ?side2 A4.out).mono ?_); (case side1 => repeat ((exact (Kd.C_below HR0_2.out HB.out)))); (case side2 => exact HC0_2.out); rintro e w9 ⟨rfl, hb⟩; refine ⟨_, rfl, ?_⟩; have n0_ := Aside0.mk (blk_below (g := gb683) (o := .cells #[.int .i64 a0_0, .int .i64 a0_1, .slice A0_2 l0_2.length c0_2] 24 (0, 0)) BK683.out hb); have n1_ := Aside0.mk (below_step HB.out hb); clear BK683; clear HB; have BK683 := n0_; have HB := n1_; clear n0_ n1_; ((clear hb)); (skip); (skip); (skip); have hcz10_0 : w9.cell? ⟨gb683, 0, none⟩ = some (.int .i64 a0_0) := (blk_cell BK683.out 0).trans rfl; have hcz10_1 : w9.cell? ⟨gb683, 1, none⟩ = some (.int .i64 a0_1) := (blk_cell BK683.out 1).trans rfl; have hcz10_2 : w9.cell? ⟨gb683, 2, none⟩ = some (.slice A0_2 l0_2.length c0_2) := (blk_cell BK683.out 2).trans rfl; have hfz10_0 := blk_frozen BK683.out 0; have hfz10_1 := blk_frozen BK683.out 1; have hfz10_2 := blk_frozen BK683.out 2) | ((with_reducible refine gate_callee (f := 38) rfl ?_); refine goesL_ (some 15) rfl rfl Try.func38 (by kernel_rfl) rfl #[.agg #[.int .i64 a0_0, .int .i64 a0_1, .slice A0_2 l0_2.length c0_2], .int .i64 a1, .int .i64 x5_1] rfl (by ((simp only [List.map_toArray, List.map_cons, List.map_nil])); (rfl)) ?_; (with_reducible refine (codewrightref04_Mul.calls k1 a0_0 a0_1 _ _ l0_2 a1 x5_1 t685 _ ?side1 ?side2 A6.out).mono ?_); (case side1 => repeat ((exact (Kd.C_below HR0_2.out HB.out)))); (case side2 => exact HC0_2.out); rintro e w11 ⟨rfl, hb⟩; refine ⟨_, rfl, ?_⟩; have n0_ := Aside0.mk (blk_below (g := gb683) (o := .cells #[.int .i64 a0_0, .int .i64 a0_1, .slice A0_2 l0_2.length c0_2] 24 (0, 0)) BK683.out hb); have n1_ := Aside0.mk (below_step HB.out hb); clear BK683; clear HB; have BK683 := n0_; have HB := n1_; clear n0_ n1_; ((clear hb)); (skip); (skip); (skip)))
     go_ret
     exact ⟨by rfl, by exact HB.out⟩
    ·rw [if_neg c7] at H
     have c7b0 : (t685 == 1) = false := beq_eq_false_iff_ne.mpr c7
     have c7b1 : (t685 != 1) = true := bne_iff_ne.mpr c7
     have H' := Aside0.mk H
     clear H
     have hcz12_0 : wr.cell? ⟨gb683, 0, none⟩ = some (.int .i64 a0_0) := (blk_cell BK683.out 0).trans rfl
     have hcz12_1 : wr.cell? ⟨gb683, 1, none⟩ = some (.int .i64 a0_1) := (blk_cell BK683.out 1).trans rfl
     have hcz12_2 : wr.cell? ⟨gb683, 2, none⟩ = some (.slice A0_2 l0_2.length c0_2) := (blk_cell BK683.out 2).trans rfl
     have hfz12_0 := blk_frozen BK683.out 0
     have hfz12_1 := blk_frozen BK683.out 1
     have hfz12_2 := blk_frozen BK683.out 2
     go_wp2_with (first | ((with_reducible refine gate_callee (f := 71) rfl ?_); refine goesL_ (some 8) rfl rfl Try.func71 (by kernel_rfl) rfl #[.agg #[.int .i64 a0_0, .int .i64 a0_1, .slice A0_2 l0_2.length c0_2]] rfl (by ((simp only [List.map_toArray, List.map_cons, List.map_nil])); (rfl)) ?_; (with_reducible refine (codewrightref04_Order.calls k1 a0_0 a0_1 _ _ l0_2 t684 _ ?side1 ?side2 A4.out).mono ?_); (case side1 => repeat ((exact (Kd.C_below HR0_2.out HB.out)))); (case side2 => exact HC0_2.out); rintro e w13 ⟨rfl, hb⟩; refine ⟨_, rfl, ?_⟩; have n0_ := Aside0.mk (blk_below (g := gb683) (o := .cells #[.int .i64 a0_0, .int .i64 a0_1, .slice A0_2 l0_2.length c0_2] 24 (0, 0)) BK683.out hb); have n1_ := Aside0.mk (below_step HB.out hb); clear BK683; clear HB; have BK683 := n0_; have HB := n1_; clear n0_ n1_; ((clear hb)); (skip); (skip); (skip); have hcz14_0 : w13.cell? ⟨gb683, 0, none⟩ = some (.int .i64 a0_0) := (blk_cell BK683.out 0).trans rfl; have hcz14_1 : w13.cell? ⟨gb683, 1, none⟩ = some (.int .i64 a0_1) := (blk_cell BK683.out 1).trans rfl; have hcz14_2 : w13.cell? ⟨gb683, 2, none⟩ = some (.slice A0_2 l0_2.length c0_2) := (blk_cell BK683.out 2).trans rfl; have hfz14_0 := blk_frozen BK683.out 0; have hfz14_1 := blk_frozen BK683.out 1; have hfz14_2 := blk_frozen BK683.out 2) | ((with_reducible refine gate_callee (f := 38) rfl ?_); refine goesL_ (some 15) rfl rfl Try.func38 (by kernel_rfl) rfl #[.agg #[.int .i64 a0_0, .int .i64 a0_1, .slice A0_2 l0_2.length c0_2], .int .i64 a1, .int .i64 x5_1] rfl (by ((simp only [List.map_toArray, List.map_cons, List.map_nil])); (rfl)) ?_; (with_reducible refine (codewrightref04_Mul.calls k1 a0_0 a0_1 _ _ l0_2 a1 x5_1 t685 _ ?side1 ?side2 A6.out).mono ?_); (case side1 => repeat ((exact (Kd.C_below HR0_2.out HB.out)))); (case side2 => exact HC0_2.out); rintro e w15 ⟨rfl, hb⟩; refine ⟨_, rfl, ?_⟩; have n0_ := Aside0.mk (blk_below (g := gb683) (o := .cells #[.int .i64 a0_0, .int .i64 a0_1, .slice A0_2 l0_2.length c0_2] 24 (0, 0)) BK683.out hb); have n1_ := Aside0.mk (below_step HB.out hb); clear BK683; clear HB; have BK683 := n0_; have HB := n1_; clear n0_ n1_; ((clear hb)); (skip); (skip); (skip)))
     go_roundg k1
     case measure => have := HK1.out; omega
     case rel => exact ⟨(wrap64 (x5_1 + 1)), (by rfl), H', ⟨by have := HK1.out; omega⟩, ⟨BK683.out⟩, ⟨HB.out⟩⟩
   ·rw [if_neg c5] at H
    have c5b0 : decide (x5_1 < t684) = false := decide_eq_false c5
    clear c5
    obtain rfl := Option.some.inj H
    have hcz16_0 : wr.cell? ⟨gb683, 0, none⟩ = some (.int .i64 a0_0) := (blk_cell BK683.out 0).trans rfl
    have hcz16_1 : wr.cell? ⟨gb683, 1, none⟩ = some (.int .i64 a0_1) := (blk_cell BK683.out 1).trans rfl
    have hcz16_2 : wr.cell? ⟨gb683, 2, none⟩ = some (.slice A0_2 l0_2.length c0_2) := (blk_cell BK683.out 2).trans rfl
    have hfz16_0 := blk_frozen BK683.out 0
    have hfz16_1 := blk_frozen BK683.out 1
    have hfz16_2 := blk_frozen BK683.out 2
    go_wp2_with (((with_reducible refine gate_callee (f := 71) rfl ?_); refine goesL_ (some 8) rfl rfl Try.func71 (by kernel_rfl) rfl #[.agg #[.int .i64 a0_0, .int .i64 a0_1, .slice A0_2 l0_2.length c0_2]] rfl (by ((simp only [List.map_toArray, List.map_cons, List.map_nil])); (rfl)) ?_; (with_reducible refine (codewrightref04_Order.calls k1 a0_0 a0_1 _ _ l0_2 t684 _ ?side1 ?side2 A4.out).mono ?_); (case side1 => repeat ((exact (Kd.C_below HR0_2.out HB.out)))); (case side2 => exact HC0_2.out); rintro e w17 ⟨rfl, hb⟩; refine ⟨_, rfl, ?_⟩; have n0_ := Aside0.mk (blk_below (g := gb683) (o := .cells #[.int .i64 a0_0, .int .i64 a0_1, .slice A0_2 l0_2.length c0_2] 24 (0, 0)) BK683.out hb); have n1_ := Aside0.mk (below_step HB.out hb); clear BK683; clear HB; have BK683 := n0_; have HB := n1_; clear n0_ n1_; ((clear hb)); (skip); (skip); (skip)))
    go_ret
    exact ⟨by rfl, by exact HB.out⟩
end Go.Proofs.Ytkdakjlopheefaa.PA
end
section
namespace Go.Proofs.Ytkdakjlopheefaa.PA
open Go.RowKit Go.Proofs.YtkdakjlopheefaaW.PrintWords Go.Proofs.YtkdakjlopheefaaW.PrintLast Go.Proofs.YtkdakjlopheefaaW.PrintMore
attribute [local go_sem] max2_int min2_int max_two min_two max_three min_three max_four min_four
set_option linter.unusedVariables false
set_option linter.unusedSimpArgs false
def codewrightref04_Neg.l0 : Nat → List Int → Int → Int → Int → List Int → Option (Int)
 | 0, _, _, _, _, _ => none
 | k + 1, x5, x6, x687000, x687001, x687002 => if x6 < (x5.length : Int) then (if 0 ≤ x6 then (if x687000 = 0 then (none) else (codewrightref04_Neg.l0 k (x5.set (x6 : Int).toNat (Int.tmod (wrap64 (x687000 - (rd x5 x6))) x687000)) (wrap64 (x6 + 1)) x687000 x687001 x687002)) else (none)) else ((codewrightref04_Value.f k x687000 x687001 x687002 x5).bind fun t692 => (some t692))
def codewrightref04_Neg.f (k : Nat) (a0_0 : Int) (a0_1 : Int) (l0_2 : List Int) (a1 : Int) : Option (Int) := (codewrightref04_Digits.f k a0_0 a0_1 l0_2 a1).bind fun t687 => (codewrightref04_Neg.l0 k t687 0 a0_0 a0_1 l0_2)
def codewrightref04_Neg.T5 : Bool × List (List Nat × List Nat) := (true, [([], []), ([], []), ([], []), ([2], [2]), ([], []), ([], []), ([4, 5], [4, 5]), ([6], [6]), ([3, 7], [3, 7]), ([], []), ([9], [9]), ([8, 10], [8, 10]), ([0, 1, 0, 1, 2, 3, 4, 5, 6, 7, 8, 9, 10, 11], [0, 1]), ([12, 11, 0, 1, 2, 3, 4, 5, 6, 7, 8, 9, 10, 11], [11, 12])])
def codewrightref04_Neg.B5 : List Nat := [0, 0, 0, 4, 0, 0, 48, 112, 252, 0, 512, 2044, 4095, 8191]
theorem codewrightref04_Neg.tab5 : rtab .any (opsOf Try.f59 5) = codewrightref04_Neg.T5 := by kernel_rfl
theorem codewrightref04_Neg.bits5 : waitsOk codewrightref04_Neg.T5.2 codewrightref04_Neg.B5 = true := by kernel_rfl
set_option maxHeartbeats 8000000 in
set_option maxRecDepth 100000 in
theorem codewrightref04_Neg.calls (k : Nat) (a0_0 : Int) (a0_1 : Int) (A0_2 : Option Addr) (c0_2 : Nat) (l0_2 : List Int) (a1 : Int) (r : Int) (w : World) (hr0_2 : Kd.C (Kd.int .i64) w A0_2 l0_2.length l0_2) (hc0_2 : l0_2.length ≤ c0_2) (h : codewrightref04_Neg.f k a0_0 a0_1 l0_2 a1 = some r) :
  Calls Try.prog 59 #[.agg #[.int .i64 a0_0, .int .i64 a0_1, .slice A0_2 l0_2.length c0_2], .int .i64 a1] w fun e w' => e = .returned (.int .i64 r) ∧ Below w.heap.size w w' := by
 have hu24 := Try.underlying24
 have HR0_2 := Aside0.mk hr0_2
 have HC0_2 := Aside0.mk hc0_2
 clear hr0_2 hc0_2
 have HB := Aside0.mk (Below.refl w.heap.size w)
 have H : ((codewrightref04_Digits.f k a0_0 a0_1 l0_2 a1).bind fun t687 => (codewrightref04_Neg.l0 k t687 0 a0_0 a0_1 l0_2)) = some r := h
 clear h
 obtain ⟨t687, A30, H⟩ := Option.bind_eq_some_iff.mp H
 replace H : (codewrightref04_Neg.l0 k t687 0 a0_0 a0_1 l0_2) = some r := H
 have A3 := Aside0.mk A30
 clear A30
 have H' := Aside0.mk H
 clear H
 go_enter Try.func59, Try.ntmps59
 go_wp2_with (first | ((with_reducible refine gate_dst (N := 2) rfl ?_); refine box_event ?hg (N := 2) ?hd (cs := #[.int .i64 a0_0, .int .i64 a0_1, .slice A0_2 l0_2.length c0_2]) (t := 24) ?hr ?_; (case hd => rfl); (case hg => rfl); (case hr => (go_simp; done)); intro gb686 hg w4 hbox hb; have n0_ := Aside0.mk (below_step HB.out hb); have n1_ := Aside0.mk (hbox); have n2_ := Aside0.mk ((by rw [hg]; exact (below_size HB.out) : w.heap.size ≤ gb686)); have n3_ := Aside0.mk ((by rw [hg]; exact (below_size HB.out) : w.heap.size ≤ gb686)); clear HB; have HB := n0_; have BK686 := n1_; have GW686 := n2_; have GE686 := n3_; clear n0_ n1_ n2_ n3_; clear hb hbox hg; have hcz5_0 : w4.cell? ⟨gb686, 0, none⟩ = some (.int .i64 a0_0) := (blk_cell BK686.out 0).trans rfl; have hcz5_1 : w4.cell? ⟨gb686, 1, none⟩ = some (.int .i64 a0_1) := (blk_cell BK686.out 1).trans rfl; have hcz5_2 : w4.cell? ⟨gb686, 2, none⟩ = some (.slice A0_2 l0_2.length c0_2) := (blk_cell BK686.out 2).trans rfl; have hfz5_0 := blk_frozen BK686.out 0; have hfz5_1 := blk_frozen BK686.out 1; have hfz5_2 := blk_frozen BK686.out 2) | ((with_reducible refine gate_callee (f := 69) rfl ?_); refine goesL_ (some 9) rfl rfl Try.func69 (by kernel_rfl) rfl #[.agg #[.int .i64 a0_0, .int .i64 a0_1, .slice A0_2 l0_2.length c0_2], .int .i64 a1] rfl (by ((simp only [List.map_toArray, List.map_cons, List.map_nil])); (rfl)) ?_; (with_reducible refine (codewrightref04_Digits.calls k a0_0 a0_1 _ _ l0_2 a1 t687 _ ?side1 ?side2 A3.out).mono ?_); (case side1 => repeat ((exact (Kd.C_below HR0_2.out HB.out)))); (case side2 => exact HC0_2.out); rintro e w6 ⟨v688, rfl, ho0, hb⟩; refine ⟨_, rfl, ?_⟩; have n0_ := Aside0.mk (Kd.R_lower ho0 (below_size HB.out)); have n1_ := Aside0.mk (blk_below (g := gb686) (o := .cells #[.int .i64 a0_0, .int .i64 a0_1, .slice A0_2 l0_2.length c0_2] 24 (0, 0)) BK686.out hb); have n2_ := Aside0.mk (below_step HB.out hb); clear BK686; clear HB; have HO689 := n0_; have BK686 := n1_; have HB := n2_; clear n0_ n1_ n2_; ((clear hb)); (skip); (skip); (skip); ((clear ho0))))
 go_loopg [6] k (fun kq v6 w' => ∃ (x5_1 : List Int) (x6_1 : Int), v6 = .int .i64 x6_1 ∧ Aside0 (codewrightref04_Neg.l0 kq x5_1 x6_1 a0_0 a0_1 l0_2 = some r) ∧ Aside0 (kq ≤ k) ∧ Aside0 (Kd.R (Kd.int .i64) 3 w' w.heap.size (fun _ => True) v688 x5_1) ∧ Aside0 (w'.heap[gb686]? = some (.cells #[.int .i64 a0_0, .int .i64 a0_1, (.slice A0_2 l0_2.length c0_2)] 24 (0, 0))) ∧ Aside0 (Below w.heap.size w w'))
 case atStart => exact ⟨(t687), (0), (by rfl), H', ⟨Nat.le_refl _⟩, ⟨HO689.out⟩, ⟨BK686.out⟩, ⟨HB.out⟩⟩
 case round =>
  clear H' hcz5_0 hcz5_1 hcz5_2 hfz5_0 hfz5_1 hfz5_2
  obtain ⟨x5_1, x6_1, rfl, HA, HK1, HO_5, BK686, HB⟩ := hrel
  cases gk with
  | zero => exact absurd HA.out (by simp [codewrightref04_Neg.l0])
  | succ k1 =>
   have H := HA.out
   clear HA
   simp only [codewrightref04_Neg.l0] at H
   by_cases c7 : x6_1 < (x5_1.length : Int)
   ·rw [if_pos c7] at H
    have c7b0 : decide (x6_1 < (x5_1.length : Int)) = true := decide_eq_true c7
    clear c7
    by_cases c8 : 0 ≤ x6_1
    ·rw [if_pos c8] at H
     have c8b0 : decide (0 ≤ x6_1) = true := decide_eq_true c8
     clear c8
     by_cases c9 : a0_0 = 0
     ·rw [if_pos c9] at H
      exact absurd H (by simp)
     ·rw [if_neg c9] at H
      have c9b0 : (a0_0 == 0) = false := beq_eq_false_iff_ne.mpr c9
      have c9b1 : (a0_0 != 0) = true := bne_iff_ne.mpr c9
      obtain ⟨y691, hy691⟩ : ∃ y_ : List Int, y_ = (x5_1.set (x6_1 : Int).toNat (Int.tmod (wrap64 (a0_0 - (rd x5_1 x6_1))) a0_0)) := ⟨_, rfl⟩
      replace H : (codewrightref04_Neg.l0 k1 y691 (wrap64 (x6_1 + 1)) a0_0 a0_1 l0_2) = some r := by (rw [hy691]; with_reducible exact H)
      have Ny691 := Aside0.mk hy691
      clear hy691
      have H' := Aside0.mk H
      clear H
      obtain ⟨Ao11, co11, eo11⟩ := Kd.R_slice HO_5.out
      subst eo11
      (go_wp2)
      have n0_ := Aside0.mk (Kd.R_drew HO_5.out)
      have n1_ := Aside0.mk (blk_drew BK686.out)
      have n2_ := Aside0.mk (below_drew1 HB.out)
      clear HO_5 BK686 HB
      have HO_5 := n0_
      have BK686 := n1_
      have HB := n2_
      clear n0_ n1_ n2_
      have p690 : 0 ≤ (x6_1 : Int) := of_decide_eq_true (by (with_reducible assumption))
      have q690 : x6_1 < (x5_1.length : Int) := of_decide_eq_true (by (with_reducible assumption))
      obtain ⟨ad690, e690, hx690_0⟩ := Kd.at_int (Kd.R_reads' HO_5.out).2.2 x6_1 p690 q690
      cases e690
      replace p690 := eq_true p690
      replace q690 := eq_true q690
      have p10 : 0 ≤ (x6_1 : Int) := of_decide_eq_true (by (with_reducible assumption))
      have q10 : (x6_1 : Int) < ((x5_1.length : Int) : Int) := of_decide_eq_true (by (with_reducible assumption))
      obtain ⟨go10, co10, eo10, gb10, gl10, cl10, HG10⟩ := Kd.R_form HO_5.out (by omega)
      ((cases eo10))
      have GB10 := Aside0.mk gb10
      have GG10 := Aside0.mk HG10
      clear gb10 gl10 HG10
      ((simp only [add_plain] at hx690_0))
      obtain ⟨hx10_0, hf10_0⟩ := Kd.R_celln 0 HO_5.out (x6_1 : Int) p10 q10
      replace p10 := eq_true p10
      replace q10 := eq_true q10
      have HP13 := Kd.R_putn HO_5.out (x6_1 : Int) (Int.tmod (wrap64 (a0_0 - (rd x5_1 x6_1))) a0_0)
      rw [← Ny691.out] at HP13
      have HQ13 := Aside0.mk HP13
      clear HP13
      refine start_ (n := 14) (S := fun w' => w'.cell? ⟨gb686, 0, none⟩ = some (.int .i64 a0_0) ∧ w'.cell? ⟨gb686, 1, none⟩ = some (.int .i64 a0_1) ∧ w'.cell? ⟨gb686, 2, none⟩ = some (.slice A0_2 l0_2.length c0_2) ∧ w'.cell? ⟨go10, (x6_1).toNat, none⟩ = some (.int .i64 (rd x5_1 x6_1))) (ds := [13]) (bm 14 0) (by kernel_rfl) rfl rfl ⟨(blk_cell BK686.out 0).trans rfl, (blk_cell BK686.out 1).trans rfl, (blk_cell BK686.out 2).trans rfl, hx690_0⟩ (fun hHeld => ?_); refine with_tabW codewrightref04_Neg.tab5 codewrightref04_Neg.bits5 (fun HT_ HW_ => ?_)
      generalize wr.drew = w12 at HO_5 BK686 HB GG10 HQ13 hf10_0 hx10_0 hx690_0 hHeld ⊢
      refine pure_ (i := 0) (N := some 16) (v := ?_) (a' := ?_) (bm 14 1) rfl rfl (any_of HT_.out (by kernel_rfl)) (fun _ _ _ h => h) (Or.inl ⟨by rfl, ?_⟩) ?_ ?_;rotate_left;(intro w';go_simp;with_reducible rfl);rotate_left;(simp only [ps_];rfl)
      refine pure_ (i := 1) (N := some 17) (v := ?_) (a' := ?_) (bm 14 3) rfl rfl (any_of HT_.out (by kernel_rfl)) (fun _ _ _ h => h) (Or.inl ⟨by rfl, ?_⟩) ?_ ?_;rotate_left;(intro w';go_simp;with_reducible rfl);rotate_left;(simp only [ps_];rfl)
      refine pure_ (i := 2) (N := some 18) (v := ?_) (a' := ?_) (bm 14 7) rfl rfl (any_of HT_.out (by kernel_rfl)) (fun _ _ _ h => h) (Or.inl ⟨by rfl, ?_⟩) ?_ ?_;rotate_left;(intro w';go_simp;with_reducible rfl);rotate_left;(simp only [ps_];rfl)
      refine pure_ (i := 4) (N := some 20) (v := ?_) (a' := ?_) (bm 14 23) rfl rfl (any_of HT_.out (by kernel_rfl)) (fun _ _ _ h => h) (Or.inl ⟨by rfl, ?_⟩) ?_ ?_;rotate_left;(intro w';go_simp;with_reducible rfl);rotate_left;(simp only [ps_];rfl)
      refine pure_ (i := 5) (N := some 21) (v := ?_) (a' := ?_) (bm 14 55) rfl rfl (any_of HT_.out (by kernel_rfl)) (fun _ _ _ h => h) (Or.inl ⟨by rfl, ?_⟩) ?_ ?_;rotate_left;(intro w';go_simp;with_reducible rfl);rotate_left;(simp only [ps_];rfl)
      refine pure_ (i := 6) (N := some 22) (v := ?_) (a' := ?_) (bm 14 119) rfl rfl (any_of HT_.out (by kernel_rfl)) (fun _ _ _ h => h) (Or.inl ⟨by rfl, ?_⟩) ?_ ?_;rotate_left;(intro w';go_simp;with_reducible rfl);rotate_left;(simp only [ps_];rfl)
      refine pure_ (i := 9) (N := some 25) (v := ?_) (a' := ?_) (bm 14 631) rfl rfl (any_of HT_.out (by kernel_rfl)) (fun _ _ _ h => h) (Or.inl ⟨by rfl, ?_⟩) ?_ ?_;rotate_left;(intro w';go_simp;with_reducible rfl);rotate_left;(simp only [ps_];rfl)
      refine take_ (i := 3) (N := some 19) (v := ?_) (a' := ?_) (bm 14 639) rfl rfl (take_ofW HT_.out HW_.out (by kernel_rfl)) (fun _ _ _ h => h) (Or.inl ⟨by rfl, ?_⟩) hHeld ?_ ?_;rotate_left;(rintro w' ⟨s0, s1, s2, s3⟩;go_simp;with_reducible rfl);rotate_left;(simp only [ps_];rfl)
      refine take_ (i := 7) (N := some 23) (v := ?_) (a' := ?_) (bm 14 767) rfl rfl (take_ofW HT_.out HW_.out (by kernel_rfl)) (fun _ _ _ h => h) (Or.inl ⟨by rfl, ?_⟩) hHeld ?_ ?_;rotate_left;(rintro w' ⟨s0, s1, s2, s3⟩;go_simp;with_reducible rfl);rotate_left;(simp only [ps_];rfl)
      refine pure_ (i := 8) (N := some 24) (v := ?_) (a' := ?_) (bm 14 1023) rfl rfl (any_of HT_.out (by kernel_rfl)) (fun _ _ _ h => h) (Or.inl ⟨by rfl, ?_⟩) ?_ ?_;rotate_left;(intro w';go_simp;with_reducible rfl);rotate_left;(simp only [ps_];rfl)
      refine take_ (i := 10) (N := some 26) (v := ?_) (a' := ?_) (bm 14 2047) rfl rfl (take_ofW HT_.out HW_.out (by kernel_rfl)) (fun _ _ _ h => h) (Or.inl ⟨by rfl, ?_⟩) hHeld ?_ ?_;rotate_left;(rintro w' ⟨s0, s1, s2, s3⟩;go_simp;with_reducible rfl);rotate_left;(simp only [ps_];rfl)
      refine pure_ (i := 11) (N := some 27) (v := ?_) (a' := ?_) (bm 14 4095) rfl rfl (any_of HT_.out (by kernel_rfl)) (fun _ _ _ h => h) (Or.inl ⟨by rfl, ?_⟩) ?_ ?_;rotate_left;(intro w';go_simp;with_reducible rfl);rotate_left;(simp only [ps_];rfl)
      refine pure_ (i := 12) (N := some 28) (v := ?_) (a' := ?_) (bm 14 8191) rfl rfl (any_of HT_.out (by kernel_rfl)) (fun _ _ _ h => h) (Or.inl ⟨by rfl, ?_⟩) ?_ ?_;rotate_left;(intro w';go_simp;with_reducible rfl);rotate_left;(simp only [ps_];rfl)
      refine last_ (i := 13) (N := none) (bm 14 16383) rfl rfl (one_of HT_.out (by kernel_rfl)) (by decide) (fun K hK => ?_)
      refine skip_ (w1 := ?_) (by rfl) rfl ?_ ?_
      rotate_left
      ·go_simp
       rfl
      refine hK.out _ _ ?_
      clear hK K
      refine done_ (done_of HT_.out (by kernel_rfl)) ?_
      (go_wp2)
      go_roundg k1
      case measure => have := HK1.out; omega
      case rel => exact ⟨(y691), (wrap64 (x6_1 + 1)), (by rfl), H', ⟨by have := HK1.out; omega⟩, ⟨HQ13.out⟩, ⟨by (with_reducible repeat (fail)); refine blk_far ?_ (by have h_ := Kd.R_ne HO_5.out BK686.out (by decide); intro e_; exact h_ (by rw [e_]; rfl)) _; (with_reducible repeat (fail)); exact BK686.out⟩, ⟨by repeat ((with_reducible first | (exact HB.out) | (refine below_set ?_ GB10.out)))⟩⟩
    ·rw [if_neg c8] at H
     exact absurd H (by simp)
   ·rw [if_neg c7] at H
    have c7b0 : decide (x6_1 < (x5_1.length : Int)) = false := decide_eq_false c7
    clear c7
    obtain ⟨t692, A140, H⟩ := Option.bind_eq_some_iff.mp H
    replace H : (some t692) = some r := H
    have A14 := Aside0.mk A140
    clear A140
    obtain rfl := Option.some.inj H
    obtain ⟨Ao15, co15, eo15⟩ := Kd.R_slice HO_5.out
    subst eo15
    have hcz16_0 : wr.cell? ⟨gb686, 0, none⟩ = some (.int .i64 a0_0) := (blk_cell BK686.out 0).trans rfl
    have hcz16_1 : wr.cell? ⟨gb686, 1, none⟩ = some (.int .i64 a0_1) := (blk_cell BK686.out 1).trans rfl
    have hcz16_2 : wr.cell? ⟨gb686, 2, none⟩ = some (.slice A0_2 l0_2.length c0_2) := (blk_cell BK686.out 2).trans rfl
    have hfz16_0 := blk_frozen BK686.out 0
    have hfz16_1 := blk_frozen BK686.out 1
    have hfz16_2 := blk_frozen BK686.out 2
    go_wp2_with (((with_reducible refine gate_callee (f := 70) rfl ?_); refine goesL_ (some 31) rfl rfl Try.func70 (by kernel_rfl) rfl #[.agg #[.int .i64 a0_0, .int .i64 a0_1, .slice A0_2 l0_2.length c0_2], .slice Ao15 x5_1.length co15] rfl (by ((simp only [List.map_toArray, List.map_cons, List.map_nil])); (rfl)) ?_; (with_reducible refine (codewrightref04_Value.calls k1 a0_0 a0_1 _ _ l0_2 _ _ x5_1 t692 _ ?side1 ?side2 ?side3 ?side4 A14.out).mono ?_); (case side1 => repeat ((exact (Kd.C_below HR0_2.out HB.out)))); (case side2 => exact HC0_2.out); (case side3 => repeat ((exact (Kd.R_reads' HO_5.out).2.2))); (case side4 => exact (Kd.R_reads' HO_5.out).2.1); rintro e w17 ⟨rfl, hb⟩; refine ⟨_, rfl, ?_⟩; have n0_ := Aside0.mk (Kd.R_below HO_5.out hb); have n1_ := Aside0.mk (blk_below (g := gb686) (o := .cells #[.int .i64 a0_0, .int .i64 a0_1, .slice A0_2 l0_2.length c0_2] 24 (0, 0)) BK686.out hb); have n2_ := Aside0.mk (below_step HB.out hb); clear HO_5; clear BK686; clear HB; have HO_5 := n0_; have BK686 := n1_; have HB := n2_; clear n0_ n1_ n2_; ((clear hb)); (skip); (skip); (skip)))
    go_ret
    exact ⟨by rfl, by exact HB.out⟩
end Go.Proofs.Ytkdakjlopheefaa.PA
end
section
namespace Go.Proofs.Ytkdakjlopheefaa.PA
open Go.RowKit Go.Proofs.YtkdakjlopheefaaW.PrintWords Go.Proofs.YtkdakjlopheefaaW.PrintLast Go.Proofs.YtkdakjlopheefaaW.PrintMore
attribute [local go_sem] max2_int min2_int max_two min_two max_three min_three max_four min_four
set_option linter.unusedVariables false
set_option linter.unusedSimpArgs false
end Go.Proofs.Ytkdakjlopheefaa.PA
end
section
namespace Go.Proofs.Ytkdakjlopheefaa.PA
open Go.RowKit Go.Proofs.YtkdakjlopheefaaW.PrintWords Go.Proofs.YtkdakjlopheefaaW.PrintLast Go.Proofs.YtkdakjlopheefaaW.PrintMore
attribute [local go_sem] max2_int min2_int max_two min_two max_three min_three max_four min_four
set_option linter.unusedVariables false
set_option linter.unusedSimpArgs false
end Go.Proofs.Ytkdakjlopheefaa.PA
end
section
namespace Go.Proofs.Ytkdakjlopheefaa.PA
open Go.RowKit Go.Proofs.YtkdakjlopheefaaW.PrintWords Go.Proofs.YtkdakjlopheefaaW.PrintLast Go.Proofs.YtkdakjlopheefaaW.PrintMore
attribute [local go_sem] max2_int min2_int max_two min_two max_three min_three max_four min_four
set_option linter.unusedVariables false
set_option linter.unusedSimpArgs false
end Go.Proofs.Ytkdakjlopheefaa.PA
end
section
namespace Go.Proofs.Ytkdakjlopheefaa.PA
open Go.RowKit Go.Proofs.YtkdakjlopheefaaW.PrintWords Go.Proofs.YtkdakjlopheefaaW.PrintLast Go.Proofs.YtkdakjlopheefaaW.PrintMore
attribute [local go_sem] max2_int min2_int max_two min_two max_three min_three max_four min_four
set_option linter.unusedVariables false
set_option linter.unusedSimpArgs false
end Go.Proofs.Ytkdakjlopheefaa.PA
end
section
namespace Go.Proofs.Ytkdakjlopheefaa.PA
open Go.RowKit Go.Proofs.YtkdakjlopheefaaW.PrintWords Go.Proofs.YtkdakjlopheefaaW.PrintLast Go.Proofs.YtkdakjlopheefaaW.PrintMore
attribute [local go_sem] max2_int min2_int max_two min_two max_three min_three max_four min_four
set_option linter.unusedVariables false
set_option linter.unusedSimpArgs false
def codewrightref05_times.l0 : Nat → Int → Int → Int → Int → Int → Int → List Int → Option (Int)
 | 0, _, _, _, _, _, _, _ => none
 | k + 1, x1, x2, x7, x8, x799000, x799001, x799002 => if x799000 = 0 then (none) else (if x8 < (Int.tmod x1 x799000) then ((codewrightref04_Add.f k x799000 x799001 x799002 x7 x2).bind fun t799 => (codewrightref05_times.l0 k x1 x2 t799 (wrap64 (x8 + 1)) x799000 x799001 x799002)) else (some x7))
def codewrightref05_times.f (k : Nat) (a0_0 : Int) (a0_1 : Int) (l0_2 : List Int) (a1 : Int) (a2 : Int) : Option (Int) := codewrightref05_times.l0 k a1 a2 0 0 a0_0 a0_1 l0_2
set_option maxHeartbeats 8000000 in
set_option maxRecDepth 100000 in
theorem codewrightref05_times.calls (k : Nat) (a0_0 : Int) (a0_1 : Int) (A0_2 : Option Addr) (c0_2 : Nat) (l0_2 : List Int) (a1 : Int) (a2 : Int) (r : Int) (w : World) (hr0_2 : Kd.C (Kd.int .i64) w A0_2 l0_2.length l0_2) (hc0_2 : l0_2.length ≤ c0_2) (h : codewrightref05_times.f k a0_0 a0_1 l0_2 a1 a2 = some r) :
  Calls Try.prog 90 #[.agg #[.int .i64 a0_0, .int .i64 a0_1, .slice A0_2 l0_2.length c0_2], .int .i64 a1, .int .i64 a2] w fun e w' => e = .returned (.int .i64 r) ∧ Below w.heap.size w w' := by
 have hu24 := Try.underlying24
 have HR0_2 := Aside0.mk hr0_2
 have HC0_2 := Aside0.mk hc0_2
 clear hr0_2 hc0_2
 have HB := Aside0.mk (Below.refl w.heap.size w)
 have H : (codewrightref05_times.l0 k a1 a2 0 0 a0_0 a0_1 l0_2) = some r := h
 clear h
 have H' := Aside0.mk H
 clear H
 go_enter Try.func90, Try.ntmps90
 go_wp2_with (((with_reducible refine gate_dst (N := 3) rfl ?_); refine box_event ?hg (N := 3) ?hd (cs := #[.int .i64 a0_0, .int .i64 a0_1, .slice A0_2 l0_2.length c0_2]) (t := 24) ?hr ?_; (case hd => rfl); (case hg => rfl); (case hr => (go_simp; done)); intro gb798 hg w4 hbox hb; have n0_ := Aside0.mk (below_step HB.out hb); have n1_ := Aside0.mk (hbox); have n2_ := Aside0.mk ((by rw [hg]; exact (below_size HB.out) : w.heap.size ≤ gb798)); have n3_ := Aside0.mk ((by rw [hg]; exact (below_size HB.out) : w.heap.size ≤ gb798)); clear HB; have HB := n0_; have BK798 := n1_; have GW798 := n2_; have GE798 := n3_; clear n0_ n1_ n2_ n3_; clear hb hbox hg))
 go_loopg [7, 8] k (fun kq v7 v8 w' => ∃ (x7_1 : Int) (x8_1 : Int), v7 = .int .i64 x7_1 ∧ v8 = .int .i64 x8_1 ∧ Aside0 (codewrightref05_times.l0 kq a1 a2 x7_1 x8_1 a0_0 a0_1 l0_2 = some r) ∧ Aside0 (kq ≤ k) ∧ Aside0 (w'.heap[gb798]? = some (.cells #[.int .i64 a0_0, .int .i64 a0_1, (.slice A0_2 l0_2.length c0_2)] 24 (0, 0))) ∧ Aside0 (Below w.heap.size w w'))
 case atStart => exact ⟨(0), (0), (by rfl), (by rfl), H', ⟨Nat.le_refl _⟩, ⟨BK798.out⟩, ⟨HB.out⟩⟩
 case round =>
  clear H'
  obtain ⟨x7_1, x8_1, rfl, rfl, HA, HK1, BK798, HB⟩ := hrel
  cases gk with
  | zero => exact absurd HA.out (by simp [codewrightref05_times.l0])
  | succ k1 =>
   have H := HA.out
   clear HA
   simp only [codewrightref05_times.l0] at H
   by_cases c5 : a0_0 = 0
   ·rw [if_pos c5] at H
    exact absurd H (by simp)
   ·rw [if_neg c5] at H
    have c5b0 : (a0_0 == 0) = false := beq_eq_false_iff_ne.mpr c5
    have c5b1 : (a0_0 != 0) = true := bne_iff_ne.mpr c5
    by_cases c6 : x8_1 < (Int.tmod a1 a0_0)
    ·rw [if_pos c6] at H
     have c6b0 : decide (x8_1 < (Int.tmod a1 a0_0)) = true := decide_eq_true c6
     clear c6
     obtain ⟨t799, A70, H⟩ := Option.bind_eq_some_iff.mp H
     replace H : (codewrightref05_times.l0 k1 a1 a2 t799 (wrap64 (x8_1 + 1)) a0_0 a0_1 l0_2) = some r := H
     have A7 := Aside0.mk A70
     clear A70
     have H' := Aside0.mk H
     clear H
     have hcz8_0 : wr.cell? ⟨gb798, 0, none⟩ = some (.int .i64 a0_0) := (blk_cell BK798.out 0).trans rfl
     have hcz8_1 : wr.cell? ⟨gb798, 1, none⟩ = some (.int .i64 a0_1) := (blk_cell BK798.out 1).trans rfl
     have hcz8_2 : wr.cell? ⟨gb798, 2, none⟩ = some (.slice A0_2 l0_2.length c0_2) := (blk_cell BK798.out 2).trans rfl
     have hfz8_0 := blk_frozen BK798.out 0
     have hfz8_1 := blk_frozen BK798.out 1
     have hfz8_2 := blk_frozen BK798.out 2
     go_wp2_with (((with_reducible refine gate_callee (f := 55) rfl ?_); refine goesL_ (some 20) rfl rfl Try.func55 (by kernel_rfl) rfl #[.agg #[.int .i64 a0_0, .int .i64 a0_1, .slice A0_2 l0_2.length c0_2], .int .i64 x7_1, .int .i64 a2] rfl (by ((simp only [List.map_toArray, List.map_cons, List.map_nil])); (rfl)) ?_; (with_reducible refine (codewrightref04_Add.calls k1 a0_0 a0_1 _ _ l0_2 x7_1 a2 t799 _ ?side1 ?side2 A7.out).mono ?_); (case side1 => repeat ((exact (Kd.C_below HR0_2.out HB.out)))); (case side2 => exact HC0_2.out); rintro e w9 ⟨rfl, hb⟩; refine ⟨_, rfl, ?_⟩; have n0_ := Aside0.mk (blk_below (g := gb798) (o := .cells #[.int .i64 a0_0, .int .i64 a0_1, .slice A0_2 l0_2.length c0_2] 24 (0, 0)) BK798.out hb); have n1_ := Aside0.mk (below_step HB.out hb); clear BK798; clear HB; have BK798 := n0_; have HB := n1_; clear n0_ n1_; ((clear hb)); (skip); (skip); (skip)))
     go_roundg k1
     case measure => have := HK1.out; omega
     case rel => exact ⟨(t799), (wrap64 (x8_1 + 1)), (by rfl), (by rfl), H', ⟨by have := HK1.out; omega⟩, ⟨BK798.out⟩, ⟨HB.out⟩⟩
    ·rw [if_neg c6] at H
     have c6b0 : decide (x8_1 < (Int.tmod a1 a0_0)) = false := decide_eq_false c6
     clear c6
     obtain rfl := Option.some.inj H
     have hcz10_0 : wr.cell? ⟨gb798, 0, none⟩ = some (.int .i64 a0_0) := (blk_cell BK798.out 0).trans rfl
     have hcz10_1 : wr.cell? ⟨gb798, 1, none⟩ = some (.int .i64 a0_1) := (blk_cell BK798.out 1).trans rfl
     have hcz10_2 : wr.cell? ⟨gb798, 2, none⟩ = some (.slice A0_2 l0_2.length c0_2) := (blk_cell BK798.out 2).trans rfl
     have hfz10_0 := blk_frozen BK798.out 0
     have hfz10_1 := blk_frozen BK798.out 1
     have hfz10_2 := blk_frozen BK798.out 2
     go_wp2
     go_ret
     exact ⟨by rfl, by exact HB.out⟩
def codewrightref05_Derivative.l0 : Nat → List Int → List Int → Int → Int → Int → List Int → Option (List Int)
 | 0, _, _, _, _, _, _ => none
 | k + 1, x1, x5, x6, x801000, x801001, x801002 => if x6 < (x5.length : Int) then (if 0 ≤ (wrap64 (x6 + 1)) then (if (wrap64 (x6 + 1)) < (x1.length : Int) then ((codewrightref05_times.f k x801000 x801001 x801002 (wrap64 (x6 + 1)) (rd x1 (wrap64 (x6 + 1)))).bind fun t805 => (if 0 ≤ x6 then (codewrightref05_Derivative.l0 k x1 (x5.set (x6 : Int).toNat t805) (wrap64 (x6 + 1)) x801000 x801001 x801002) else (none))) else (none)) else (none)) else ((codewrightref05_Canon.f k x801000 x801001 x801002 x5).bind fun t807 => (some t807))
def codewrightref05_Derivative.f (k : Nat) (a0_0 : Int) (a0_1 : Int) (l0_2 : List Int) (l1 : List Int) : Option (List Int) := if (l1.length : Int) = 0 then (some ([] : List Int)) else (if 0 ≤ (wrap64 ((l1.length : Int) - 1)) then (if (wrap64 ((l1.length : Int) - 1) : Int).toNat ≤ 35184372088832 then (codewrightref05_Derivative.l0 k l1 (List.replicate (wrap64 ((l1.length : Int) - 1) : Int).toNat 0) 0 a0_0 a0_1 l0_2) else (none)) else (none))
def codewrightref05_Derivative.T7 : Bool × List (List Nat × List Nat) := (true, [([], []), ([], []), ([], []), ([], []), ([3], [3]), ([], []), ([], []), ([6], [6]), ([5, 7], [5, 7]), ([8], [8]), ([2, 4, 9], [2, 4, 9]), ([0, 1, 0, 1, 2, 3, 4, 5, 6, 7, 8, 9, 10], [0, 1]), ([11, 10, 10, 0, 1, 2, 3, 4, 5, 6, 7, 8, 9, 10], [10, 11])])
def codewrightref05_Derivative.B7 : List Nat := [0, 0, 0, 0, 8, 0, 0, 64, 224, 480, 1020, 2047, 4095]
theorem codewrightref05_Derivative.tab7 : rtab .any (opsOf Try.f65 7) = codewrightref05_Derivative.T7 := by kernel_rfl
theorem codewrightref05_Derivative.bits7 : waitsOk codewrightref05_Derivative.T7.2 codewrightref05_Derivative.B7 = true := by kernel_rfl
set_option maxHeartbeats 8000000 in
set_option maxRecDepth 100000 in
theorem codewrightref05_Derivative.calls (k : Nat) (a0_0 : Int) (a0_1 : Int) (A0_2 : Option Addr) (c0_2 : Nat) (l0_2 : List Int) (A1 : Option Addr) (c1 : Nat) (l1 : List Int) (r : List Int) (w : World) (hr0_2 : Kd.C (Kd.int .i64) w A0_2 l0_2.length l0_2) (hc0_2 : l0_2.length ≤ c0_2) (hr1 : Kd.C (Kd.int .i64) w A1 l1.length l1) (hc1 : l1.length ≤ c1) (h : codewrightref05_Derivative.f k a0_0 a0_1 l0_2 l1 = some r) :
  Calls Try.prog 65 #[.agg #[.int .i64 a0_0, .int .i64 a0_1, .slice A0_2 l0_2.length c0_2], .slice A1 l1.length c1] w fun e w' => ∃ v0_ : Value, e = .returned (v0_) ∧ Kd.R (Kd.int .i64) 3 w' w.heap.size (fun _ => True) v0_ r ∧ Below w.heap.size w w' := by
 have hu24 := Try.underlying24
 have HR0_2 := Aside0.mk hr0_2
 have HC0_2 := Aside0.mk hc0_2
 clear hr0_2 hc0_2
 have HR1 := Aside0.mk hr1
 have HC1 := Aside0.mk hc1
 clear hr1 hc1
 have HB := Aside0.mk (Below.refl w.heap.size w)
 have H : (if (l1.length : Int) = 0 then (some ([] : List Int)) else (if 0 ≤ (wrap64 ((l1.length : Int) - 1)) then (if (wrap64 ((l1.length : Int) - 1) : Int).toNat ≤ 35184372088832 then (codewrightref05_Derivative.l0 k l1 (List.replicate (wrap64 ((l1.length : Int) - 1) : Int).toNat 0) 0 a0_0 a0_1 l0_2) else (none)) else (none))) = some r := h
 clear h
 by_cases c3 : (l1.length : Int) = 0
 ·rw [if_pos c3] at H
  have c3b0 : ((l1.length : Int) == 0) = true := beq_iff_eq.mpr c3
  have c3b1 : ((l1.length : Int) != 0) = false := bne_eq_false_iff_eq.mpr c3
  clear c3
  obtain rfl := Option.some.inj H
  go_enter Try.func65, Try.ntmps65
  go_wp2_with (((with_reducible refine gate_dst (N := 2) rfl ?_); refine box_event ?hg (N := 2) ?hd (cs := #[.int .i64 a0_0, .int .i64 a0_1, .slice A0_2 l0_2.length c0_2]) (t := 24) ?hr ?_; (case hd => rfl); (case hg => rfl); (case hr => (go_simp; done)); intro gb800 hg w4 hbox hb; have n0_ := Aside0.mk (below_step HB.out hb); have n1_ := Aside0.mk (hbox); have n2_ := Aside0.mk ((by rw [hg]; exact (below_size HB.out) : w.heap.size ≤ gb800)); have n3_ := Aside0.mk ((by rw [hg]; exact (below_size HB.out) : w.heap.size ≤ gb800)); clear HB; have HB := n0_; have BK800 := n1_; have GW800 := n2_; have GE800 := n3_; clear n0_ n1_ n2_ n3_; clear hb hbox hg))
  go_ret
  exact ⟨_, by rfl, by (exact Kd.R_nil _ _ _ _ _), by exact HB.out⟩
 ·rw [if_neg c3] at H
  have c3b0 : ((l1.length : Int) == 0) = false := beq_eq_false_iff_ne.mpr c3
  have c3b1 : ((l1.length : Int) != 0) = true := bne_iff_ne.mpr c3
  have c3b2 : ¬ (l1 = []) := fun h_ => c3 (by rw [h_]; rfl)
  obtain ⟨ji5, hji5⟩ : ∃ j_ : Int, (wrap64 ((l1.length : Int) - 1)) = j_ := ⟨_, rfl⟩
  replace H : (if 0 ≤ (ji5) then (if (ji5 : Int).toNat ≤ 35184372088832 then (codewrightref05_Derivative.l0 k l1 (List.replicate (ji5 : Int).toNat 0) 0 a0_0 a0_1 l0_2) else (none)) else (none)) = some r := by (rw [hji5] at H; exact H)
  have hji5w : (IntKind.i64.wrap ((l1.length : Int) - 1)) = ji5 := (i64_w _).trans hji5
  by_cases c6 : 0 ≤ (ji5)
  ·rw [if_pos c6] at H
   have c6b0 := eq_true c6
   have c6b1 : decide (0 ≤ (ji5)) = true := decide_eq_true c6
   clear c6
   by_cases c7 : (ji5 : Int).toNat ≤ 35184372088832
   ·rw [if_pos c7] at H
    have c7b0 := eq_true c7
    have c7b1 : decide ((ji5 : Int).toNat ≤ 35184372088832) = true := decide_eq_true c7
    clear c7
    obtain ⟨y801, hy801⟩ : ∃ y_ : List Int, y_ = (List.replicate (ji5 : Int).toNat 0) := ⟨_, rfl⟩
    replace H : (codewrightref05_Derivative.l0 k l1 y801 0 a0_0 a0_1 l0_2) = some r := by (rw [hy801]; with_reducible exact H)
    have Ny801 := Aside0.mk hy801
    clear hy801
    have H' := Aside0.mk H
    clear H
    go_enter Try.func65, Try.ntmps65
    go_wp2_with (first | ((with_reducible refine gate_dst (N := 2) rfl ?_); refine box_event ?hg (N := 2) ?hd (cs := #[.int .i64 a0_0, .int .i64 a0_1, .slice A0_2 l0_2.length c0_2]) (t := 24) ?hr ?_; (case hd => rfl); (case hg => rfl); (case hr => (go_simp; done)); intro gb800 hg w8 hbox hb; have n0_ := Aside0.mk (below_step HB.out hb); have n1_ := Aside0.mk (hbox); have n2_ := Aside0.mk ((by rw [hg]; exact (below_size HB.out) : w.heap.size ≤ gb800)); have n3_ := Aside0.mk ((by rw [hg]; exact (below_size HB.out) : w.heap.size ≤ gb800)); clear HB; have HB := n0_; have BK800 := n1_; have GW800 := n2_; have GE800 := n3_; clear n0_ n1_ n2_ n3_; clear hb hbox hg) | ((with_reducible refine gate_dst (N := 13) rfl ?_); refine Kd.R_make (Kd.int .i64) _ 3 rfl (N := 13) rfl 22 _ _ rfl ji5 rfl rfl Try.underlying22 (.int .i64 0) 8 info3 rfl (by decide) (by omega) 0 (ok := fun _ => True) (okp := fun _ => True) rfl (fun _ hk => hk) trivial (of_decide_eq_true (by (with_reducible assumption))) (Nat.le_trans (Nat.mul_le_mul_right _ (of_decide_eq_true (by (with_reducible assumption)) : ji5.toNat ≤ 35184372088832)) (by omega)) (Below.refl _ _) (Nat.le_refl _) ?_; intro v802 w9 ho10 hb hg_ hnew_; clear hg_ hnew_; ((rw [← Ny801.out] at ho10)); have n0_ := Aside0.mk (Kd.R_lower ho10 (below_size HB.out)); have n1_ := Aside0.mk (blk_below (g := gb800) (o := .cells #[.int .i64 a0_0, .int .i64 a0_1, .slice A0_2 l0_2.length c0_2] 24 (0, 0)) BK800.out hb); have n2_ := Aside0.mk (below_step HB.out hb); clear BK800; clear HB; have HO803 := n0_; have BK800 := n1_; have HB := n2_; clear n0_ n1_ n2_; clear hb ho10))
    go_loopg [6] k (fun kq v6 w' => ∃ (x5_1 : List Int) (x6_1 : Int), v6 = .int .i64 x6_1 ∧ Aside0 (codewrightref05_Derivative.l0 kq l1 x5_1 x6_1 a0_0 a0_1 l0_2 = some r) ∧ Aside0 (kq ≤ k) ∧ Aside0 (Kd.R (Kd.int .i64) 3 w' w.heap.size (fun _ => True) v802 x5_1) ∧ Aside0 (w'.heap[gb800]? = some (.cells #[.int .i64 a0_0, .int .i64 a0_1, (.slice A0_2 l0_2.length c0_2)] 24 (0, 0))) ∧ Aside0 (Below w.heap.size w w'))
    case atStart => exact ⟨(y801), (0), (by rfl), H', ⟨Nat.le_refl _⟩, ⟨HO803.out⟩, ⟨BK800.out⟩, ⟨HB.out⟩⟩
    case round =>
     clear H' c3 c3b0 c3b1 c3b2 c6b0 c6b1 c7b0 c7b1
     obtain ⟨x5_1, x6_1, rfl, HA, HK1, HO_5, BK800, HB⟩ := hrel
     cases gk with
     | zero => exact absurd HA.out (by simp [codewrightref05_Derivative.l0])
     | succ k1 =>
      have H := HA.out
      clear HA
      simp only [codewrightref05_Derivative.l0] at H
      by_cases c11 : x6_1 < (x5_1.length : Int)
      ·rw [if_pos c11] at H
       have c11b0 : decide (x6_1 < (x5_1.length : Int)) = true := decide_eq_true c11
       clear c11
       obtain ⟨ji12, hji12⟩ : ∃ j_ : Int, (wrap64 (x6_1 + 1)) = j_ := ⟨_, rfl⟩
       replace H : (if 0 ≤ (ji12) then (if (ji12) < (l1.length : Int) then ((codewrightref05_times.f k1 a0_0 a0_1 l0_2 (ji12) (rd l1 (ji12))).bind fun t805 => (if 0 ≤ x6_1 then (codewrightref05_Derivative.l0 k1 l1 (x5_1.set (x6_1 : Int).toNat t805) ji12 a0_0 a0_1 l0_2) else (none))) else (none)) else (none)) = some r := by (rw [hji12] at H; exact H)
       have hji12w : (IntKind.i64.wrap (x6_1 + 1)) = ji12 := (i64_w _).trans hji12
       by_cases c13 : 0 ≤ (ji12)
       ·rw [if_pos c13] at H
        have c13b0 : decide (0 ≤ (ji12)) = true := decide_eq_true c13
        clear c13
        by_cases c14 : (ji12) < (l1.length : Int)
        ·rw [if_pos c14] at H
         have c14b0 : decide ((ji12) < (l1.length : Int)) = true := decide_eq_true c14
         clear c14
         obtain ⟨t805, A150, H⟩ := Option.bind_eq_some_iff.mp H
         replace H : (if 0 ≤ x6_1 then (codewrightref05_Derivative.l0 k1 l1 (x5_1.set (x6_1 : Int).toNat t805) ji12 a0_0 a0_1 l0_2) else (none)) = some r := H
         have A15 := Aside0.mk A150
         clear A150
         by_cases c16 : 0 ≤ x6_1
         ·rw [if_pos c16] at H
          have c16b0 : decide (0 ≤ x6_1) = true := decide_eq_true c16
          clear c16
          obtain ⟨y806, hy806⟩ : ∃ y_ : List Int, y_ = (x5_1.set (x6_1 : Int).toNat t805) := ⟨_, rfl⟩
          replace H : (codewrightref05_Derivative.l0 k1 l1 y806 ji12 a0_0 a0_1 l0_2) = some r := by (rw [hy806]; with_reducible exact H)
          have Ny806 := Aside0.mk hy806
          clear hy806
          have H' := Aside0.mk H
          clear H
          obtain ⟨Ao18, co18, eo18⟩ := Kd.R_slice HO_5.out
          subst eo18
          (go_wp2)
          have n0_ := Aside0.mk (Kd.R_drew HO_5.out)
          have n1_ := Aside0.mk (blk_drew BK800.out)
          have n2_ := Aside0.mk (below_drew1 HB.out)
          clear HO_5 BK800 HB
          have HO_5 := n0_
          have BK800 := n1_
          have HB := n2_
          clear n0_ n1_ n2_
          have p804 : 0 ≤ ((ji12) : Int) := of_decide_eq_true (by (with_reducible assumption))
          have q804 : (ji12) < (l1.length : Int) := of_decide_eq_true (by (with_reducible assumption))
          obtain ⟨ad804, e804, hx804_0⟩ := Kd.at_int HR1.out (ji12) p804 q804
          have hw804_0 := hx804_0
          cases e804
          replace hx804_0 := (HB.out.cell (World.block_lt_of_cell? w _ hx804_0)).trans hx804_0
          replace p804 := eq_true p804
          replace q804 := eq_true q804
          refine start_ (n := 13) (S := fun w' => w'.cell? ⟨gb800, 0, none⟩ = some (.int .i64 a0_0) ∧ w'.cell? ⟨gb800, 1, none⟩ = some (.int .i64 a0_1) ∧ w'.cell? ⟨gb800, 2, none⟩ = some (.slice A0_2 l0_2.length c0_2) ∧ w'.cell? (ad804.add ((ji12)).toNat) = some (.int .i64 (rd l1 (ji12)))) (ds := [12]) (bm 13 0) (by kernel_rfl) rfl rfl ⟨(blk_cell BK800.out 0).trans rfl, (blk_cell BK800.out 1).trans rfl, (blk_cell BK800.out 2).trans rfl, ((HB.out.cell (World.block_lt_of_cell? w _ hw804_0)).trans hw804_0)⟩ (fun hHeld => ?_); refine with_tabW codewrightref05_Derivative.tab7 codewrightref05_Derivative.bits7 (fun HT_ HW_ => ?_)
          generalize wr.drew = w19 at HO_5 BK800 HB hx804_0 hHeld ⊢
          refine pure_ (i := 0) (N := some 20) (v := ?_) (a' := ?_) (bm 13 1) rfl rfl (any_of HT_.out (by kernel_rfl)) (fun _ _ _ h => h) (Or.inl ⟨by rfl, ?_⟩) ?_ ?_;rotate_left;(intro w';go_simp;with_reducible rfl);rotate_left;(simp only [ps_];rfl)
          refine pure_ (i := 1) (N := some 21) (v := ?_) (a' := ?_) (bm 13 3) rfl rfl (any_of HT_.out (by kernel_rfl)) (fun _ _ _ h => h) (Or.inl ⟨by rfl, ?_⟩) ?_ ?_;rotate_left;(intro w';go_simp;with_reducible rfl);rotate_left;(simp only [ps_];rfl)
          refine pure_ (i := 3) (N := some 23) (v := ?_) (a' := ?_) (bm 13 11) rfl rfl (any_of HT_.out (by kernel_rfl)) (fun _ _ _ h => h) (Or.inl ⟨by rfl, ?_⟩) ?_ ?_;rotate_left;(intro w';go_simp;with_reducible rfl);rotate_left;(simp only [ps_];rfl)
          refine pure_ (i := 4) (N := some 24) (v := ?_) (a' := ?_) (bm 13 27) rfl rfl (any_of HT_.out (by kernel_rfl)) (fun _ _ _ h => h) (Or.inl ⟨by rfl, ?_⟩) ?_ ?_;rotate_left;(intro w';go_simp;with_reducible rfl);rotate_left;(simp only [ps_];rfl)
          refine pure_ (i := 5) (N := some 25) (v := ?_) (a' := ?_) (bm 13 59) rfl rfl (any_of HT_.out (by kernel_rfl)) (fun _ _ _ h => h) (Or.inl ⟨by rfl, ?_⟩) ?_ ?_;rotate_left;(intro w';go_simp;with_reducible rfl);rotate_left;(simp only [ps_];rfl)
          refine pure_ (i := 6) (N := some 26) (v := ?_) (a' := ?_) (bm 13 123) rfl rfl (any_of HT_.out (by kernel_rfl)) (fun _ _ _ h => h) (Or.inl ⟨by rfl, ?_⟩) ?_ ?_;rotate_left;(intro w';go_simp;with_reducible rfl);rotate_left;(simp only [ps_];rfl)
          refine pure_ (i := 7) (N := some 27) (v := ?_) (a' := ?_) (bm 13 251) rfl rfl (any_of HT_.out (by kernel_rfl)) (fun _ _ _ h => h) (Or.inl ⟨by rfl, ?_⟩) ?_ ?_;rotate_left;(intro w';go_simp;with_reducible rfl);rotate_left;(simp only [ps_];rfl)
          refine pure_ (i := 8) (N := some 28) (v := ?_) (a' := ?_) (bm 13 507) rfl rfl (any_of HT_.out (by kernel_rfl)) (fun _ _ _ h => h) (Or.inl ⟨by rfl, ?_⟩) ?_ ?_;rotate_left;(intro w';go_simp;with_reducible rfl);rotate_left;(simp only [ps_];rfl)
          refine take_ (i := 2) (N := some 22) (v := ?_) (a' := ?_) (bm 13 511) rfl rfl (take_ofW HT_.out HW_.out (by kernel_rfl)) (fun _ _ _ h => h) (Or.inl ⟨by rfl, ?_⟩) hHeld ?_ ?_;rotate_left;(rintro w' ⟨s0, s1, s2, s3⟩;go_simp;with_reducible rfl);rotate_left;(simp only [ps_];rfl)
          refine take_ (i := 9) (N := some 29) (v := ?_) (a' := ?_) (bm 13 1023) rfl rfl (take_ofW HT_.out HW_.out (by kernel_rfl)) (fun _ _ _ h => h) (Or.inl ⟨by rfl, ?_⟩) hHeld ?_ ?_;rotate_left;(rintro w' ⟨s0, s1, s2, s3⟩;go_simp;with_reducible rfl);rotate_left;(simp only [ps_];rfl)
          refine one_ (i := 10) (N := some 30) (bm 13 2047) rfl rfl (one_of HT_.out (by kernel_rfl)) (by decide) (fun K hK => ?_)
          refine goes_ Try.func90 (by kernel_rfl) rfl #[.agg #[.int .i64 a0_0, .int .i64 a0_1, .slice A0_2 l0_2.length c0_2], .int .i64 ji12, .int .i64 (rd l1 (ji12))] (by rfl) rfl rfl (by ((simp only [List.map_toArray, List.map_cons, List.map_nil])); (rfl)) ?_
          with_reducible refine (codewrightref05_times.calls k1 a0_0 a0_1 _ _ l0_2 ji12 (rd l1 (ji12)) t805 _ ?side1 ?side2 A15.out).mono ?_
          (case side1 => repeat ((exact (Kd.C_below HR0_2.out HB.out))))
          (case side2 => exact HC0_2.out)
          rintro e w20 ⟨rfl, hb⟩
          refine ⟨_, rfl, ?_⟩
          have n0_ := Aside0.mk (Kd.R_below HO_5.out hb)
          have n1_ := Aside0.mk (blk_below (g := gb800) (o := .cells #[.int .i64 a0_0, .int .i64 a0_1, .slice A0_2 l0_2.length c0_2] 24 (0, 0)) BK800.out hb)
          have n2_ := Aside0.mk (below_step HB.out hb)
          clear HO_5 BK800 HB
          have HO_5 := n0_
          have BK800 := n1_
          have HB := n2_
          clear n0_ n1_ n2_
          ((clear hb))
          have p17 : 0 ≤ (x6_1 : Int) := of_decide_eq_true (by (with_reducible assumption))
          have q17 : (x6_1 : Int) < ((x5_1.length : Int) : Int) := of_decide_eq_true (by (with_reducible assumption))
          obtain ⟨go17, co17, eo17, gb17, gl17, cl17, HG17⟩ := Kd.R_form HO_5.out (by omega)
          ((cases eo17))
          have GB17 := Aside0.mk gb17
          have GG17 := Aside0.mk HG17
          clear gb17 gl17 HG17
          obtain ⟨hx17_0, hf17_0⟩ := Kd.R_celln 0 HO_5.out (x6_1 : Int) p17 q17
          replace p17 := eq_true p17
          replace q17 := eq_true q17
          have HP21 := Kd.R_putn HO_5.out (x6_1 : Int) t805
          rw [← Ny806.out] at HP21
          have HQ21 := Aside0.mk HP21
          clear HP21
          refine hK.out _ _ ⟨(blk_cell BK800.out 0).trans rfl, (blk_cell BK800.out 1).trans rfl, (blk_cell BK800.out 2).trans rfl, ((HB.out.cell (World.block_lt_of_cell? w _ hw804_0)).trans hw804_0)⟩ (fun hHeld => ?_)
          clear hK K
          refine norm_ (a' := ?_) ?_ ?_
          rotate_left
          ·show Act.put _ (some 30) _ = _
           simp only [Act.put, List.setIfInBounds_toArray, List.set_cons_zero, List.set_cons_succ, i64_w, i32_w]
           rfl
          refine pure_ (i := 11) (N := some 31) (v := ?_) (a' := ?_) (bm 13 4095) rfl rfl (any_of HT_.out (by kernel_rfl)) (fun _ _ _ h => h) (Or.inl ⟨by rfl, ?_⟩) ?_ ?_;rotate_left;(intro w';go_simp;with_reducible rfl);rotate_left;(simp only [ps_];rfl)
          refine last_ (i := 12) (N := none) (bm 13 8191) rfl rfl (one_of HT_.out (by kernel_rfl)) (by decide) (fun K hK => ?_)
          refine skip_ (w1 := ?_) (by rfl) rfl ?_ ?_
          rotate_left
          ·go_simp
           rfl
          refine hK.out _ _ ?_
          clear hK K
          refine done_ (done_of HT_.out (by kernel_rfl)) ?_
          (go_wp2)
          go_roundg k1
          case measure => have := HK1.out; omega
          case rel => exact ⟨(y806), (ji12), (by rfl), H', ⟨by have := HK1.out; omega⟩, ⟨HQ21.out⟩, ⟨by (with_reducible repeat (fail)); refine blk_far ?_ (by have h_ := Kd.R_ne HO_5.out BK800.out (by decide); intro e_; exact h_ (by rw [e_]; rfl)) _; (with_reducible repeat (fail)); exact BK800.out⟩, ⟨by repeat ((with_reducible first | (exact HB.out) | (refine below_set ?_ GB17.out)))⟩⟩
         ·rw [if_neg c16] at H
          exact absurd H (by simp)
        ·rw [if_neg c14] at H
         exact absurd H (by simp)
       ·rw [if_neg c13] at H
        exact absurd H (by simp)
      ·rw [if_neg c11] at H
       have c11b0 : decide (x6_1 < (x5_1.length : Int)) = false := decide_eq_false c11
       clear c11
       obtain ⟨t807, A220, H⟩ := Option.bind_eq_some_iff.mp H
       replace H : (some t807) = some r := H
       have A22 := Aside0.mk A220
       clear A220
       obtain rfl := Option.some.inj H
       obtain ⟨Ao23, co23, eo23⟩ := Kd.R_slice HO_5.out
       subst eo23
       have hcz24_0 : wr.cell? ⟨gb800, 0, none⟩ = some (.int .i64 a0_0) := (blk_cell BK800.out 0).trans rfl
       have hcz24_1 : wr.cell? ⟨gb800, 1, none⟩ = some (.int .i64 a0_1) := (blk_cell BK800.out 1).trans rfl
       have hcz24_2 : wr.cell? ⟨gb800, 2, none⟩ = some (.slice A0_2 l0_2.length c0_2) := (blk_cell BK800.out 2).trans rfl
       have hfz24_0 := blk_frozen BK800.out 0
       have hfz24_1 := blk_frozen BK800.out 1
       have hfz24_2 := blk_frozen BK800.out 2
       go_wp2_with (((with_reducible refine gate_callee (f := 23) rfl ?_); refine goesL_ (some 34) rfl rfl Try.func23 (by kernel_rfl) rfl #[.agg #[.int .i64 a0_0, .int .i64 a0_1, .slice A0_2 l0_2.length c0_2], .slice Ao23 x5_1.length co23] rfl (by ((simp only [List.map_toArray, List.map_cons, List.map_nil])); (rfl)) ?_; (with_reducible refine (codewrightref05_Canon.calls k1 a0_0 a0_1 _ _ l0_2 _ _ x5_1 t807 _ ?side1 ?side2 ?side3 ?side4 A22.out).mono ?_); (case side1 => repeat ((exact (Kd.C_below HR0_2.out HB.out)))); (case side2 => exact HC0_2.out); (case side3 => repeat ((exact (Kd.R_reads' HO_5.out).2.2))); (case side4 => exact (Kd.R_reads' HO_5.out).2.1); rintro e w25 ⟨v808, rfl, ho0, hb⟩; refine ⟨_, rfl, ?_⟩; have n0_ := Aside0.mk (Kd.R_elder' HO_5.out (Kd.R_base ho0) hb); have n1_ := Aside0.mk (Kd.R_lower (Kd.R_new' ho0 (Kd.R_lt HO_5.out)) (below_size HB.out)); have n2_ := Aside0.mk (blk_below (g := gb800) (o := .cells #[.int .i64 a0_0, .int .i64 a0_1, .slice A0_2 l0_2.length c0_2] 24 (0, 0)) BK800.out hb); have n3_ := Aside0.mk (below_step HB.out hb); clear HO_5; clear BK800; clear HB; have HO_5 := n0_; have HO809 := n1_; have BK800 := n2_; have HB := n3_; clear n0_ n1_ n2_ n3_; ((clear hb)); (skip); (skip); (skip); ((clear ho0))))
       go_ret
       exact ⟨_, by rfl, by exact Kd.R_mono HO809.out (fun _ hk => trivial), by exact HB.out⟩
   ·rw [if_neg c7] at H
    exact absurd H (by simp)
  ·rw [if_neg c6] at H
   exact absurd H (by simp)
end Go.Proofs.Ytkdakjlopheefaa.PA
end
section
namespace Go.Proofs.Ytkdakjlopheefaa.PA
open Go.RowKit Go.Proofs.YtkdakjlopheefaaW.PrintWords Go.Proofs.YtkdakjlopheefaaW.PrintLast Go.Proofs.YtkdakjlopheefaaW.PrintMore
attribute [local go_sem] max2_int min2_int max_two min_two max_three min_three max_four min_four
set_option linter.unusedVariables false
set_option linter.unusedSimpArgs false
def codewrightref38_Forney.f (k : Nat) (a0_0 : Int) (a0_1 : Int) (l0_2 : List Int) (l1 : List Int) (l2 : List Int) (a3 : Int) : Option (Int × Int) := (codewrightref04_In.f k a0_0 a0_1 l0_2 a3).bind fun t811 => (if t811 = 0 then (some (0, 7)) else ((codewrightref04_Inv.f k a0_0 a0_1 l0_2 t811).bind fun t812 => ((codewrightref05_Derivative.f k a0_0 a0_1 l0_2 l1).bind fun t813 => ((codewrightref05_Eval.f k a0_0 a0_1 l0_2 t813 t812).bind fun t816 => (if t816 = 0 then (some (0, 7)) else ((codewrightref05_Eval.f k a0_0 a0_1 l0_2 l2 t812).bind fun t817 => ((codewrightref04_Mul.f k a0_0 a0_1 l0_2 t811 t817).bind fun t818 => ((codewrightref04_Inv.f k a0_0 a0_1 l0_2 t816).bind fun t819 => ((codewrightref04_Mul.f k a0_0 a0_1 l0_2 t818 t819).bind fun t820 => ((codewrightref04_Neg.f k a0_0 a0_1 l0_2 t820).bind fun t821 => (some (t821, 0))))))))))))
def codewrightref38_Forney.T8 : Bool × List (List Nat × List Nat) := (true, [([], []), ([], []), ([], []), ([], []), ([], []), ([2, 3, 4], [2, 3, 4]), ([0, 1, 5, 5], [0, 1, 5]), ([6, 6, 0, 1, 2, 3, 4, 5, 6], [6])])
def codewrightref38_Forney.B8 : List Nat := [0, 0, 0, 0, 0, 28, 63, 127]
theorem codewrightref38_Forney.tab8 : rtab .any (opsOf Try.f34 8) = codewrightref38_Forney.T8 := by kernel_rfl
theorem codewrightref38_Forney.bits8 : waitsOk codewrightref38_Forney.T8.2 codewrightref38_Forney.B8 = true := by kernel_rfl
def codewrightref38_Forney.T9 : Bool × List (List Nat × List Nat) := (true, [([], []), ([], []), ([], []), ([], []), ([], []), ([3, 4], [3, 4]), ([1, 2, 5, 5], [1, 2, 5]), ([0, 6, 6], [0, 6]), ([7, 7, 0, 1, 2, 3, 4, 5, 6, 7], [7]), ([8, 0, 1, 2, 3, 4, 5, 6, 7, 8], [])])
def codewrightref38_Forney.B9 : List Nat := [0, 0, 0, 0, 0, 24, 62, 127, 255, 511]
theorem codewrightref38_Forney.tab9 : rtab .any (opsOf Try.f34 9) = codewrightref38_Forney.T9 := by kernel_rfl
theorem codewrightref38_Forney.bits9 : waitsOk codewrightref38_Forney.T9.2 codewrightref38_Forney.B9 = true := by kernel_rfl
set_option maxHeartbeats 8000000 in
set_option maxRecDepth 100000 in
theorem codewrightref38_Forney.calls (k : Nat) (a0_0 : Int) (a0_1 : Int) (A0_2 : Option Addr) (c0_2 : Nat) (l0_2 : List Int) (A1 : Option Addr) (c1 : Nat) (l1 : List Int) (A2 : Option Addr) (c2 : Nat) (l2 : List Int) (a3 : Int) (r1 : Int) (r2 : Int) (w : World) (hr0_2 : Kd.C (Kd.int .i64) w A0_2 l0_2.length l0_2) (hc0_2 : l0_2.length ≤ c0_2) (hr1 : Kd.C (Kd.int .i64) w A1 l1.length l1) (hc1 : l1.length ≤ c1) (hr2 : Kd.C (Kd.int .i64) w A2 l2.length l2) (hc2 : l2.length ≤ c2) (h : codewrightref38_Forney.f k a0_0 a0_1 l0_2 l1 l2 a3 = some (r1, r2)) :
  Calls Try.prog 34 #[.agg #[.int .i64 a0_0, .int .i64 a0_1, .slice A0_2 l0_2.length c0_2], .slice A1 l1.length c1, .slice A2 l2.length c2, .int .i64 a3] w fun e w' => e = .returned (.tuple #[.int .i64 r1, .int .i64 r2]) ∧ Below w.heap.size w w' := by
 have hu24 := Try.underlying24
 have HR0_2 := Aside0.mk hr0_2
 have HC0_2 := Aside0.mk hc0_2
 clear hr0_2 hc0_2
 have HR1 := Aside0.mk hr1
 have HC1 := Aside0.mk hc1
 clear hr1 hc1
 have HR2 := Aside0.mk hr2
 have HC2 := Aside0.mk hc2
 clear hr2 hc2
 have HB := Aside0.mk (Below.refl w.heap.size w)
 have H : ((codewrightref04_In.f k a0_0 a0_1 l0_2 a3).bind fun t811 => (if t811 = 0 then (some (0, 7)) else ((codewrightref04_Inv.f k a0_0 a0_1 l0_2 t811).bind fun t812 => ((codewrightref05_Derivative.f k a0_0 a0_1 l0_2 l1).bind fun t813 => ((codewrightref05_Eval.f k a0_0 a0_1 l0_2 t813 t812).bind fun t816 => (if t816 = 0 then (some (0, 7)) else ((codewrightref05_Eval.f k a0_0 a0_1 l0_2 l2 t812).bind fun t817 => ((codewrightref04_Mul.f k a0_0 a0_1 l0_2 t811 t817).bind fun t818 => ((codewrightref04_Inv.f k a0_0 a0_1 l0_2 t816).bind fun t819 => ((codewrightref04_Mul.f k a0_0 a0_1 l0_2 t818 t819).bind fun t820 => ((codewrightref04_Neg.f k a0_0 a0_1 l0_2 t820).bind fun t821 => (some (t821, 0))))))))))))) = some (r1, r2) := h
 clear h
 obtain ⟨t811, A50, H⟩ := Option.bind_eq_some_iff.mp H
 replace H : (if t811 = 0 then (some (0, 7)) else ((codewrightref04_Inv.f k a0_0 a0_1 l0_2 t811).bind fun t812 => ((codewrightref05_Derivative.f k a0_0 a0_1 l0_2 l1).bind fun t813 => ((codewrightref05_Eval.f k a0_0 a0_1 l0_2 t813 t812).bind fun t816 => (if t816 = 0 then (some (0, 7)) else ((codewrightref05_Eval.f k a0_0 a0_1 l0_2 l2 t812).bind fun t817 => ((codewrightref04_Mul.f k a0_0 a0_1 l0_2 t811 t817).bind fun t818 => ((codewrightref04_Inv.f k a0_0 a0_1 l0_2 t816).bind fun t819 => ((codewrightref04_Mul.f k a0_0 a0_1 l0_2 t818 t819).bind fun t820 => ((codewrightref04_Neg.f k a0_0 a0_1 l0_2 t820).bind fun t821 => (some (t821, 0)))))))))))) = some (r1, r2) := H
 have A5 := Aside0.mk A50
 clear A50
 by_cases c6 : t811 = 0
 ·rw [if_pos c6] at H
  have c6b0 : (t811 == 0) = true := beq_iff_eq.mpr c6
  have c6b1 : (t811 != 0) = false := bne_eq_false_iff_eq.mpr c6
  clear c6
  simp only [Option.some.injEq, Prod.mk.injEq] at H
  obtain ⟨rfl, rfl⟩ := H
  go_enter Try.func34, Try.ntmps34
  go_wp2_with (first | ((with_reducible refine gate_dst (N := 4) rfl ?_); refine box_event ?hg (N := 4) ?hd (cs := #[.int .i64 a0_0, .int .i64 a0_1, .slice A0_2 l0_2.length c0_2]) (t := 24) ?hr ?_; (case hd => rfl); (case hg => rfl); (case hr => (go_simp; done)); intro gb810 hg w7 hbox hb; have n0_ := Aside0.mk (below_step HB.out hb); have n1_ := Aside0.mk (hbox); have n2_ := Aside0.mk ((by rw [hg]; exact (below_size HB.out) : w.heap.size ≤ gb810)); have n3_ := Aside0.mk ((by rw [hg]; exact (below_size HB.out) : w.heap.size ≤ gb810)); clear HB; have HB := n0_; have BK810 := n1_; have GW810 := n2_; have GE810 := n3_; clear n0_ n1_ n2_ n3_; clear hb hbox hg; have hcz8_0 : w7.cell? ⟨gb810, 0, none⟩ = some (.int .i64 a0_0) := (blk_cell BK810.out 0).trans rfl; have hcz8_1 : w7.cell? ⟨gb810, 1, none⟩ = some (.int .i64 a0_1) := (blk_cell BK810.out 1).trans rfl; have hcz8_2 : w7.cell? ⟨gb810, 2, none⟩ = some (.slice A0_2 l0_2.length c0_2) := (blk_cell BK810.out 2).trans rfl; have hfz8_0 := blk_frozen BK810.out 0; have hfz8_1 := blk_frozen BK810.out 1; have hfz8_2 := blk_frozen BK810.out 2) | ((with_reducible refine gate_callee (f := 31) rfl ?_); refine goesL_ (some 15) rfl rfl Try.func31 (by kernel_rfl) rfl #[.agg #[.int .i64 a0_0, .int .i64 a0_1, .slice A0_2 l0_2.length c0_2], .int .i64 a3] rfl (by ((simp only [List.map_toArray, List.map_cons, List.map_nil])); (rfl)) ?_; (with_reducible refine (codewrightref04_In.calls k a0_0 a0_1 _ _ l0_2 a3 t811 _ ?side1 ?side2 A5.out).mono ?_); (case side1 => repeat ((exact (Kd.C_below HR0_2.out HB.out)))); (case side2 => exact HC0_2.out); rintro e w9 ⟨rfl, hb⟩; refine ⟨_, rfl, ?_⟩; have n0_ := Aside0.mk (blk_below (g := gb810) (o := .cells #[.int .i64 a0_0, .int .i64 a0_1, .slice A0_2 l0_2.length c0_2] 24 (0, 0)) BK810.out hb); have n1_ := Aside0.mk (below_step HB.out hb); clear BK810; clear HB; have BK810 := n0_; have HB := n1_; clear n0_ n1_; ((clear hb)); (skip); (skip); (skip)))
  go_ret2
  exact ⟨by rfl, by exact HB.out⟩
 ·rw [if_neg c6] at H
  have c6b0 : (t811 == 0) = false := beq_eq_false_iff_ne.mpr c6
  have c6b1 : (t811 != 0) = true := bne_iff_ne.mpr c6
  obtain ⟨t812, A100, H⟩ := Option.bind_eq_some_iff.mp H
  replace H : ((codewrightref05_Derivative.f k a0_0 a0_1 l0_2 l1).bind fun t813 => ((codewrightref05_Eval.f k a0_0 a0_1 l0_2 t813 t812).bind fun t816 => (if t816 = 0 then (some (0, 7)) else ((codewrightref05_Eval.f k a0_0 a0_1 l0_2 l2 t812).bind fun t817 => ((codewrightref04_Mul.f k a0_0 a0_1 l0_2 t811 t817).bind fun t818 => ((codewrightref04_Inv.f k a0_0 a0_1 l0_2 t816).bind fun t819 => ((codewrightref04_Mul.f k a0_0 a0_1 l0_2 t818 t819).bind fun t820 => ((codewrightref04_Neg.f k a0_0 a0_1 l0_2 t820).bind fun t821 => (some (t821, 0)))))))))) = some (r1, r2) := H
  have A10 := Aside0.mk A100
  clear A100
  obtain ⟨t813, A110, H⟩ := Option.bind_eq_some_iff.mp H
  replace H : ((codewrightref05_Eval.f k a0_0 a0_1 l0_2 t813 t812).bind fun t816 => (if t816 = 0 then (some (0, 7)) else ((codewrightref05_Eval.f k a0_0 a0_1 l0_2 l2 t812).bind fun t817 => ((codewrightref04_Mul.f k a0_0 a0_1 l0_2 t811 t817).bind fun t818 => ((codewrightref04_Inv.f k a0_0 a0_1 l0_2 t816).bind fun t819 => ((codewrightref04_Mul.f k a0_0 a0_1 l0_2 t818 t819).bind fun t820 => ((codewrightref04_Neg.f k a0_0 a0_1 l0_2 t820).bind fun t821 => (some (t821, 0))))))))) = some (r1, r2) := H
  have A11 := Aside0.mk A110
  clear A110
  obtain ⟨t816, A120, H⟩ := Option.bind_eq_some_iff.mp H
  replace H : (if t816 = 0 then (some (0, 7)) else ((codewrightref05_Eval.f k a0_0 a0_1 l0_2 l2 t812).bind fun t817 => ((codewrightref04_Mul.f k a0_0 a0_1 l0_2 t811 t817).bind fun t818 => ((codewrightref04_Inv.f k a0_0 a0_1 l0_2 t816).bind fun t819 => ((codewrightref04_Mul.f k a0_0 a0_1 l0_2 t818 t819).bind fun t820 => ((codewrightref04_Neg.f k a0_0 a0_1 l0_2 t820).bind fun t821 => (some (t821, 0)))))))) = some (r1, r2) := H
  have A12 := Aside0.mk A120
  clear A120
  by_cases c13 : t816 = 0
  ·rw [if_pos c13] at H
   have c13b0 : (t816 == 0) = true := beq_iff_eq.mpr c13
   have c13b1 : (t816 != 0) = false := bne_eq_false_iff_eq.mpr c13
   clear c13
   simp only [Option.some.injEq, Prod.mk.injEq] at H
   obtain ⟨rfl, rfl⟩ := H
   go_enter Try.func34, Try.ntmps34
   (go_wp2_with (first | ((with_reducible refine gate_dst (N := 4) rfl ?_); refine box_event ?hg (N := 4) ?hd (cs := #[.int .i64 a0_0, .int .i64 a0_1, .slice A0_2 l0_2.length c0_2]) (t := 24) ?hr ?_; (case hd => rfl); (case hg => rfl); (case hr => (go_simp; done)); intro gb810 hg w14 hbox hb; have n0_ := Aside0.mk (below_step HB.out hb); have n1_ := Aside0.mk (hbox); have n2_ := Aside0.mk ((by rw [hg]; exact (below_size HB.out) : w.heap.size ≤ gb810)); have n3_ := Aside0.mk ((by rw [hg]; exact (below_size HB.out) : w.heap.size ≤ gb810)); clear HB; have HB := n0_; have BK810 := n1_; have GW810 := n2_; have GE810 := n3_; clear n0_ n1_ n2_ n3_; clear hb hbox hg; have hcz15_0 : w14.cell? ⟨gb810, 0, none⟩ = some (.int .i64 a0_0) := (blk_cell BK810.out 0).trans rfl; have hcz15_1 : w14.cell? ⟨gb810, 1, none⟩ = some (.int .i64 a0_1) := (blk_cell BK810.out 1).trans rfl; have hcz15_2 : w14.cell? ⟨gb810, 2, none⟩ = some (.slice A0_2 l0_2.length c0_2) := (blk_cell BK810.out 2).trans rfl; have hfz15_0 := blk_frozen BK810.out 0; have hfz15_1 := blk_frozen BK810.out 1; have hfz15_2 := blk_frozen BK810.out 2) | ((with_reducible refine gate_callee (f := 31) rfl ?_); refine goesL_ (some 15) rfl rfl Try.func31 (by kernel_rfl) rfl #[.agg #[.int .i64 a0_0, .int .i64 a0_1, .slice A0_2 l0_2.length c0_2], .int .i64 a3] rfl (by ((simp only [List.map_toArray, List.map_cons, List.map_nil])); (rfl)) ?_; (with_reducible refine (codewrightref04_In.calls k a0_0 a0_1 _ _ l0_2 a3 t811 _ ?side1 ?side2 A5.out).mono ?_); (case side1 => repeat ((exact (Kd.C_below HR0_2.out HB.out)))); (case side2 => exact HC0_2.out); rintro e w16 ⟨rfl, hb⟩; refine ⟨_, rfl, ?_⟩; have n0_ := Aside0.mk (blk_below (g := gb810) (o := .cells #[.int .i64 a0_0, .int .i64 a0_1, .slice A0_2 l0_2.length c0_2] 24 (0, 0)) BK810.out hb); have n1_ := Aside0.mk (below_step HB.out hb); clear BK810; clear HB; have BK810 := n0_; have HB := n1_; clear n0_ n1_; ((clear hb)); (skip); (skip); (skip); have hcz17_0 : w16.cell? ⟨gb810, 0, none⟩ = some (.int .i64 a0_0) := (blk_cell BK810.out 0).trans rfl; have hcz17_1 : w16.cell? ⟨gb810, 1, none⟩ = some (.int .i64 a0_1) := (blk_cell BK810.out 1).trans rfl; have hcz17_2 : w16.cell? ⟨gb810, 2, none⟩ = some (.slice A0_2 l0_2.length c0_2) := (blk_cell BK810.out 2).trans rfl; have hfz17_0 := blk_frozen BK810.out 0; have hfz17_1 := blk_frozen BK810.out 1; have hfz17_2 := blk_frozen BK810.out 2) | ((with_reducible refine gate_callee (f := 64) rfl ?_); refine goesL_ (some 20) rfl rfl Try.func64 (by kernel_rfl) rfl #[.agg #[.int .i64 a0_0, .int .i64 a0_1, .slice A0_2 l0_2.length c0_2], .int .i64 t811] rfl (by ((simp only [List.map_toArray, List.map_cons, List.map_nil])); (rfl)) ?_; (with_reducible refine (codewrightref04_Inv.calls k a0_0 a0_1 _ _ l0_2 t811 t812 _ ?side1 ?side2 A10.out).mono ?_); (case side1 => repeat ((exact (Kd.C_below HR0_2.out HB.out)))); (case side2 => exact HC0_2.out); rintro e w18 ⟨rfl, hb⟩; refine ⟨_, rfl, ?_⟩; have n0_ := Aside0.mk (blk_below (g := gb810) (o := .cells #[.int .i64 a0_0, .int .i64 a0_1, .slice A0_2 l0_2.length c0_2] 24 (0, 0)) BK810.out hb); have n1_ := Aside0.mk (below_step HB.out hb); clear BK810; clear HB; have BK810 := n0_; have HB := n1_; clear n0_ n1_; ((clear hb)); (skip); (skip); (skip))))
   have n0_ := Aside0.mk (blk_drew BK810.out)
   have n1_ := Aside0.mk (below_drew1 HB.out)
   clear BK810 HB
   have BK810 := n0_
   have HB := n1_
   clear n0_ n1_
   refine start_ (n := 7) (S := fun w' => w'.cell? ⟨gb810, 0, none⟩ = some (.int .i64 a0_0) ∧ w'.cell? ⟨gb810, 1, none⟩ = some (.int .i64 a0_1) ∧ w'.cell? ⟨gb810, 2, none⟩ = some (.slice A0_2 l0_2.length c0_2)) (ds := []) (bm 7 0) (by kernel_rfl) rfl rfl ⟨(blk_cell BK810.out 0).trans rfl, (blk_cell BK810.out 1).trans rfl, (blk_cell BK810.out 2).trans rfl⟩ (fun hHeld => ?_)
   generalize w18.drew = w19 at BK810 HB hHeld ⊢
   refine pure_ (i := 2) (N := some 23) (v := ?_) (a' := ?_) (bm 7 4) rfl rfl (by kernel_rfl) (fun _ _ _ h => h) (Or.inl ⟨by rfl, ?_⟩) ?_ ?_;rotate_left;(intro w';go_simp;with_reducible rfl);rotate_left;(simp only [ps_];rfl)
   refine pure_ (i := 4) (N := some 25) (v := ?_) (a' := ?_) (bm 7 20) rfl rfl (by kernel_rfl) (fun _ _ _ h => h) (Or.inl ⟨by rfl, ?_⟩) ?_ ?_;rotate_left;(intro w';go_simp;with_reducible rfl);rotate_left;(simp only [ps_];rfl)
   refine take_ (i := 0) (N := some 21) (v := ?_) (a' := ?_) (bm 7 21) rfl rfl (by kernel_rfl) (fun _ _ _ h => h) (Or.inl ⟨by rfl, ?_⟩) hHeld ?_ ?_;rotate_left;(rintro w' ⟨s0, s1, s2⟩;go_simp;with_reducible rfl);rotate_left;(simp only [ps_];rfl)
   refine take_ (i := 1) (N := some 22) (v := ?_) (a' := ?_) (bm 7 23) rfl rfl (by kernel_rfl) (fun _ _ _ h => h) (Or.inl ⟨by rfl, ?_⟩) hHeld ?_ ?_;rotate_left;(rintro w' ⟨s0, s1, s2⟩;go_simp;with_reducible rfl);rotate_left;(simp only [ps_];rfl)
   refine one_ (i := 3) (N := some 24) (bm 7 31) rfl rfl (by kernel_rfl) (by decide) (fun K hK => ?_)
   refine goes_ Try.func65 (by kernel_rfl) rfl #[.agg #[.int .i64 a0_0, .int .i64 a0_1, .slice A0_2 l0_2.length c0_2], .slice A1 l1.length c1] (by rfl) rfl rfl (by ((simp only [List.map_toArray, List.map_cons, List.map_nil])); (rfl)) ?_
   with_reducible refine (codewrightref05_Derivative.calls k a0_0 a0_1 _ _ l0_2 _ _ l1 t813 _ ?side1 ?side2 ?side3 ?side4 A11.out).mono ?_
   (case side1 => repeat ((exact (Kd.C_below HR0_2.out HB.out))))
   (case side2 => exact HC0_2.out)
   (case side3 => repeat ((exact (Kd.C_below HR1.out HB.out))))
   (case side4 => exact HC1.out)
   rintro e w20 ⟨v814, rfl, ho0, hb⟩
   refine ⟨_, rfl, ?_⟩
   have n0_ := Aside0.mk (Kd.R_lower ho0 (below_size HB.out))
   have n1_ := Aside0.mk (blk_below (g := gb810) (o := .cells #[.int .i64 a0_0, .int .i64 a0_1, .slice A0_2 l0_2.length c0_2] 24 (0, 0)) BK810.out hb)
   have n2_ := Aside0.mk (below_step HB.out hb)
   clear BK810 HB
   have HO815 := n0_
   have BK810 := n1_
   have HB := n2_
   clear n0_ n1_ n2_
   ((clear hb))
   ((clear ho0))
   obtain ⟨Ao21, co21, eo21⟩ := Kd.R_slice HO815.out
   ((subst eo21))
   refine hK.out _ _ ⟨(blk_cell BK810.out 0).trans rfl, (blk_cell BK810.out 1).trans rfl, (blk_cell BK810.out 2).trans rfl⟩ (fun hHeld => ?_)
   clear hK K
   refine norm_ (a' := ?_) ?_ ?_
   rotate_left
   ·show Act.put _ (some 24) _ = _
    simp only [Act.put, List.setIfInBounds_toArray, List.set_cons_zero, List.set_cons_succ, i64_w, i32_w]
    rfl
   refine one_ (i := 5) (N := some 26) (bm 7 63) rfl rfl (by kernel_rfl) (by decide) (fun K hK => ?_)
   refine goes_ Try.func39 (by kernel_rfl) rfl #[.agg #[.int .i64 a0_0, .int .i64 a0_1, .slice A0_2 l0_2.length c0_2], .slice Ao21 t813.length co21, .int .i64 t812] (by rfl) rfl rfl (by ((simp only [List.map_toArray, List.map_cons, List.map_nil])); (rfl)) ?_
   with_reducible refine (codewrightref05_Eval.calls k a0_0 a0_1 _ _ l0_2 _ _ t813 t812 t816 _ ?side1 ?side2 ?side3 ?side4 A12.out).mono ?_
   (case side1 => repeat ((exact (Kd.C_below HR0_2.out HB.out))))
   (case side2 => exact HC0_2.out)
   (case side3 => repeat ((exact (Kd.R_reads' HO815.out).2.2)))
   (case side4 => exact (Kd.R_reads' HO815.out).2.1)
   rintro e w22 ⟨rfl, hb⟩
   refine ⟨_, rfl, ?_⟩
   have n0_ := Aside0.mk (Kd.R_below HO815.out hb)
   have n1_ := Aside0.mk (blk_below (g := gb810) (o := .cells #[.int .i64 a0_0, .int .i64 a0_1, .slice A0_2 l0_2.length c0_2] 24 (0, 0)) BK810.out hb)
   have n2_ := Aside0.mk (below_step HB.out hb)
   clear HO815 BK810 HB
   have HO815 := n0_
   have BK810 := n1_
   have HB := n2_
   clear n0_ n1_ n2_
   ((clear hb))
   refine hK.out _ _ ⟨(blk_cell BK810.out 0).trans rfl, (blk_cell BK810.out 1).trans rfl, (blk_cell BK810.out 2).trans rfl⟩ (fun hHeld => ?_)
   clear hK K
   refine norm_ (a' := ?_) ?_ ?_
   rotate_left
   ·show Act.put _ (some 26) _ = _
    simp only [Act.put, List.setIfInBounds_toArray, List.set_cons_zero, List.set_cons_succ, i64_w, i32_w]
    rfl
   refine pure_ (i := 6) (N := some 11) (v := ?_) (a' := ?_) (bm 7 127) rfl rfl (by kernel_rfl) (fun _ _ _ h => h) (Or.inl ⟨by rfl, ?_⟩) ?_ ?_;rotate_left;(intro w';go_simp;with_reducible rfl);rotate_left;(simp only [ps_];rfl)
   refine done_ (by kernel_rfl) ?_
   (go_wp2)
   go_ret2
   exact ⟨by rfl, by exact HB.out⟩
  ·rw [if_neg c13] at H
   have c13b0 : (t816 == 0) = false := beq_eq_false_iff_ne.mpr c13
   have c13b1 : (t816 != 0) = true := bne_iff_ne.mpr c13
   obtain ⟨t817, A230, H⟩ := Option.bind_eq_some_iff.mp H
   replace H : ((codewrightref04_Mul.f k a0_0 a0_1 l0_2 t811 t817).bind fun t818 => ((codewrightref04_Inv.f k a0_0 a0_1 l0_2 t816).bind fun t819 => ((codewrightref04_Mul.f k a0_0 a0_1 l0_2 t818 t819).bind fun t820 => ((codewrightref04_Neg.f k a0_0 a0_1 l0_2 t820).bind fun t821 => (some (t821, 0)))))) = some (r1, r2) := H
   have A23 := Aside0.mk A230
   clear A230
   obtain ⟨t818, A240, H⟩ := Option.bind_eq_some_iff.mp H
   replace H : ((codewrightref04_Inv.f k a0_0 a0_1 l0_2 t816).bind fun t819 => ((codewrightref04_Mul.f k a0_0 a0_1 l0_2 t818 t819).bind fun t820 => ((codewrightref04_Neg.f k a0_0 a0_1 l0_2 t820).bind fun t821 => (some (t821, 0))))) = some (r1, r2) := H
   have A24 := Aside0.mk A240
   clear A240
   obtain ⟨t819, A250, H⟩ := Option.bind_eq_some_iff.mp H
   replace H : ((codewrightref04_Mul.f k a0_0 a0_1 l0_2 t818 t819).bind fun t820 => ((codewrightref04_Neg.f k a0_0 a0_1 l0_2 t820).bind fun t821 => (some (t821, 0)))) = some (r1, r2) := H
   have A25 := Aside0.mk A250
   clear A250
   obtain ⟨t820, A260, H⟩ := Option.bind_eq_some_iff.mp H
   replace H : ((codewrightref04_Neg.f k a0_0 a0_1 l0_2 t820).bind fun t821 => (some (t821, 0))) = some (r1, r2) := H
   have A26 := Aside0.mk A260
   clear A260
   obtain ⟨t821, A270, H⟩ := Option.bind_eq_some_iff.mp H
   replace H : (some (t821, 0)) = some (r1, r2) := H
   have A27 := Aside0.mk A270
   clear A270
   simp only [Option.some.injEq, Prod.mk.injEq] at H
   obtain ⟨rfl, rfl⟩ := H
   go_enter Try.func34, Try.ntmps34
   (go_wp2_with (first | ((with_reducible refine gate_dst (N := 4) rfl ?_); refine box_event ?hg (N := 4) ?hd (cs := #[.int .i64 a0_0, .int .i64 a0_1, .slice A0_2 l0_2.length c0_2]) (t := 24) ?hr ?_; (case hd => rfl); (case hg => rfl); (case hr => (go_simp; done)); intro gb810 hg w28 hbox hb; have n0_ := Aside0.mk (below_step HB.out hb); have n1_ := Aside0.mk (hbox); have n2_ := Aside0.mk ((by rw [hg]; exact (below_size HB.out) : w.heap.size ≤ gb810)); have n3_ := Aside0.mk ((by rw [hg]; exact (below_size HB.out) : w.heap.size ≤ gb810)); clear HB; have HB := n0_; have BK810 := n1_; have GW810 := n2_; have GE810 := n3_; clear n0_ n1_ n2_ n3_; clear hb hbox hg; have hcz29_0 : w28.cell? ⟨gb810, 0, none⟩ = some (.int .i64 a0_0) := (blk_cell BK810.out 0).trans rfl; have hcz29_1 : w28.cell? ⟨gb810, 1, none⟩ = some (.int .i64 a0_1) := (blk_cell BK810.out 1).trans rfl; have hcz29_2 : w28.cell? ⟨gb810, 2, none⟩ = some (.slice A0_2 l0_2.length c0_2) := (blk_cell BK810.out 2).trans rfl; have hfz29_0 := blk_frozen BK810.out 0; have hfz29_1 := blk_frozen BK810.out 1; have hfz29_2 := blk_frozen BK810.out 2) | ((with_reducible refine gate_callee (f := 31) rfl ?_); refine goesL_ (some 15) rfl rfl Try.func31 (by kernel_rfl) rfl #[.agg #[.int .i64 a0_0, .int .i64 a0_1, .slice A0_2 l0_2.length c0_2], .int .i64 a3] rfl (by ((simp only [List.map_toArray, List.map_cons, List.map_nil])); (rfl)) ?_; (with_reducible refine (codewrightref04_In.calls k a0_0 a0_1 _ _ l0_2 a3 t811 _ ?side1 ?side2 A5.out).mono ?_); (case side1 => repeat ((exact (Kd.C_below HR0_2.out HB.out)))); (case side2 => exact HC0_2.out); rintro e w30 ⟨rfl, hb⟩; refine ⟨_, rfl, ?_⟩; have n0_ := Aside0.mk (blk_below (g := gb810) (o := .cells #[.int .i64 a0_0, .int .i64 a0_1, .slice A0_2 l0_2.length c0_2] 24 (0, 0)) BK810.out hb); have n1_ := Aside0.mk (below_step HB.out hb); clear BK810; clear HB; have BK810 := n0_; have HB := n1_; clear n0_ n1_; ((clear hb)); (skip); (skip); (skip); have hcz31_0 : w30.cell? ⟨gb810, 0, none⟩ = some (.int .i64 a0_0) := (blk_cell BK810.out 0).trans rfl; have hcz31_1 : w30.cell? ⟨gb810, 1, none⟩ = some (.int .i64 a0_1) := (blk_cell BK810.out 1).trans rfl; have hcz31_2 : w30.cell? ⟨gb810, 2, none⟩ = some (.slice A0_2 l0_2.length c0_2) := (blk_cell BK810.out 2).trans rfl; have hfz31_0 := blk_frozen BK810.out 0; have hfz31_1 := blk_frozen BK810.out 1; have hfz31_2 := blk_frozen BK810.out 2) | ((with_reducible refine gate_callee (f := 64) rfl ?_); refine goesL_ (some 20) rfl rfl Try.func64 (by kernel_rfl) rfl #[.agg #[.int .i64 a0_0, .int .i64 a0_1, .slice A0_2 l0_2.length c0_2], .int .i64 t811] rfl (by ((simp only [List.map_toArray, List.map_cons, List.map_nil])); (rfl)) ?_; (with_reducible refine (codewrightref04_Inv.calls k a0_0 a0_1 _ _ l0_2 t811 t812 _ ?side1 ?side2 A10.out).mono ?_); (case side1 => repeat ((exact (Kd.C_below HR0_2.out HB.out)))); (case side2 => exact HC0_2.out); rintro e w32 ⟨rfl, hb⟩; refine ⟨_, rfl, ?_⟩; have n0_ := Aside0.mk (blk_below (g := gb810) (o := .cells #[.int .i64 a0_0, .int .i64 a0_1, .slice A0_2 l0_2.length c0_2] 24 (0, 0)) BK810.out hb); have n1_ := Aside0.mk (below_step HB.out hb); clear BK810; clear HB; have BK810 := n0_; have HB := n1_; clear n0_ n1_; ((clear hb)); (skip); (skip); (skip))))
   have n0_ := Aside0.mk (blk_drew BK810.out)
   have n1_ := Aside0.mk (below_drew1 HB.out)
   clear BK810 HB
   have BK810 := n0_
   have HB := n1_
   clear n0_ n1_
   refine start_ (n := 7) (S := fun w' => w'.cell? ⟨gb810, 0, none⟩ = some (.int .i64 a0_0) ∧ w'.cell? ⟨gb810, 1, none⟩ = some (.int .i64 a0_1) ∧ w'.cell? ⟨gb810, 2, none⟩ = some (.slice A0_2 l0_2.length c0_2)) (ds := []) (bm 7 0) (by kernel_rfl) rfl rfl ⟨(blk_cell BK810.out 0).trans rfl, (blk_cell BK810.out 1).trans rfl, (blk_cell BK810.out 2).trans rfl⟩ (fun hHeld => ?_)
   generalize w32.drew = w33 at BK810 HB hHeld ⊢
   refine pure_ (i := 2) (N := some 23) (v := ?_) (a' := ?_) (bm 7 4) rfl rfl (by kernel_rfl) (fun _ _ _ h => h) (Or.inl ⟨by rfl, ?_⟩) ?_ ?_;rotate_left;(intro w';go_simp;with_reducible rfl);rotate_left;(simp only [ps_];rfl)
   refine pure_ (i := 4) (N := some 25) (v := ?_) (a' := ?_) (bm 7 20) rfl rfl (by kernel_rfl) (fun _ _ _ h => h) (Or.inl ⟨by rfl, ?_⟩) ?_ ?_;rotate_left;(intro w';go_simp;with_reducible rfl);rotate_left;(simp only [ps_];rfl)
   refine take_ (i := 0) (N := some 21) (v := ?_) (a' := ?_) (bm 7 21) rfl rfl (by kernel_rfl) (fun _ _ _ h => h) (Or.inl ⟨by rfl, ?_⟩) hHeld ?_ ?_;rotate_left;(rintro w' ⟨s0, s1, s2⟩;go_simp;with_reducible rfl);rotate_left;(simp only [ps_];rfl)
   refine take_ (i := 1) (N := some 22) (v := ?_) (a' := ?_) (bm 7 23) rfl rfl (by kernel_rfl) (fun _ _ _ h => h) (Or.inl ⟨by rfl, ?_⟩) hHeld ?_ ?_;rotate_left;(rintro w' ⟨s0, s1, s2⟩;go_simp;with_reducible rfl);rotate_left;(simp only [ps_];rfl)
   refine one_ (i := 3) (N := some 24) (bm 7 31) rfl rfl (by kernel_rfl) (by decide) (fun K hK => ?_)
   refine goes_ Try.func65 (by kernel_rfl) rfl #[.agg #[.int .i64 a0_0, .int .i64 a0_1, .slice A0_2 l0_2.length c0_2], .slice A1 l1.length c1] (by rfl) rfl rfl (by ((simp only [List.map_toArray, List.map_cons, List.map_nil])); (rfl)) ?_
   with_reducible refine (codewrightref05_Derivative.calls k a0_0 a0_1 _ _ l0_2 _ _ l1 t813 _ ?side1 ?side2 ?side3 ?side4 A11.out).mono ?_
   (case side1 => repeat ((exact (Kd.C_below HR0_2.out HB.out))))
   (case side2 => exact HC0_2.out)
   (case side3 => repeat ((exact (Kd.C_below HR1.out HB.out))))
   (case side4 => exact HC1.out)
   rintro e w34 ⟨v814, rfl, ho0, hb⟩
   refine ⟨_, rfl, ?_⟩
   have n0_ := Aside0.mk (Kd.R_lower ho0 (below_size HB.out))
   have n1_ := Aside0.mk (blk_below (g := gb810) (o := .cells #[.int .i64 a0_0, .int .i64 a0_1, .slice A0_2 l0_2.length c0_2] 24 (0, 0)) BK810.out hb)
   have n2_ := Aside0.mk (below_step HB.out hb)
   clear BK810 HB
   have HO815 := n0_
   have BK810 := n1_
   have HB := n2_
   clear n0_ n1_ n2_
   ((clear hb))
   ((clear ho0))
   obtain ⟨Ao35, co35, eo35⟩ := Kd.R_slice HO815.out
   ((subst eo35))
   refine hK.out _ _ ⟨(blk_cell BK810.out 0).trans rfl, (blk_cell BK810.out 1).trans rfl, (blk_cell BK810.out 2).trans rfl⟩ (fun hHeld => ?_)
   clear hK K
   refine norm_ (a' := ?_) ?_ ?_
   rotate_left
   ·show Act.put _ (some 24) _ = _
    simp only [Act.put, List.setIfInBounds_toArray, List.set_cons_zero, List.set_cons_succ, i64_w, i32_w]
    rfl
   refine one_ (i := 5) (N := some 26) (bm 7 63) rfl rfl (by kernel_rfl) (by decide) (fun K hK => ?_)
   refine goes_ Try.func39 (by kernel_rfl) rfl #[.agg #[.int .i64 a0_0, .int .i64 a0_1, .slice A0_2 l0_2.length c0_2], .slice Ao35 t813.length co35, .int .i64 t812] (by rfl) rfl rfl (by ((simp only [List.map_toArray, List.map_cons, List.map_nil])); (rfl)) ?_
   with_reducible refine (codewrightref05_Eval.calls k a0_0 a0_1 _ _ l0_2 _ _ t813 t812 t816 _ ?side1 ?side2 ?side3 ?side4 A12.out).mono ?_
   (case side1 => repeat ((exact (Kd.C_below HR0_2.out HB.out))))
   (case side2 => exact HC0_2.out)
   (case side3 => repeat ((exact (Kd.R_reads' HO815.out).2.2)))
   (case side4 => exact (Kd.R_reads' HO815.out).2.1)
   rintro e w36 ⟨rfl, hb⟩
   refine ⟨_, rfl, ?_⟩
   have n0_ := Aside0.mk (Kd.R_below HO815.out hb)
   have n1_ := Aside0.mk (blk_below (g := gb810) (o := .cells #[.int .i64 a0_0, .int .i64 a0_1, .slice A0_2 l0_2.length c0_2] 24 (0, 0)) BK810.out hb)
   have n2_ := Aside0.mk (below_step HB.out hb)
   clear HO815 BK810 HB
   have HO815 := n0_
   have BK810 := n1_
   have HB := n2_
   clear n0_ n1_ n2_
   ((clear hb))
   refine hK.out _ _ ⟨(blk_cell BK810.out 0).trans rfl, (blk_cell BK810.out 1).trans rfl, (blk_cell BK810.out 2).trans rfl⟩ (fun hHeld => ?_)
   clear hK K
   refine norm_ (a' := ?_) ?_ ?_
   rotate_left
   ·show Act.put _ (some 26) _ = _
    simp only [Act.put, List.setIfInBounds_toArray, List.set_cons_zero, List.set_cons_succ, i64_w, i32_w]
    rfl
   refine pure_ (i := 6) (N := some 11) (v := ?_) (a' := ?_) (bm 7 127) rfl rfl (by kernel_rfl) (fun _ _ _ h => h) (Or.inl ⟨by rfl, ?_⟩) ?_ ?_;rotate_left;(intro w';go_simp;with_reducible rfl);rotate_left;(simp only [ps_];rfl)
   refine done_ (by kernel_rfl) ?_
   (go_wp2)
   have n0_ := Aside0.mk (Kd.R_drew HO815.out)
   have n1_ := Aside0.mk (blk_drew BK810.out)
   have n2_ := Aside0.mk (below_drew1 HB.out)
   clear HO815 BK810 HB
   have HO815 := n0_
   have BK810 := n1_
   have HB := n2_
   clear n0_ n1_ n2_
   refine start_ (n := 8) (S := fun w' => w'.cell? ⟨gb810, 0, none⟩ = some (.int .i64 a0_0) ∧ w'.cell? ⟨gb810, 1, none⟩ = some (.int .i64 a0_1) ∧ w'.cell? ⟨gb810, 2, none⟩ = some (.slice A0_2 l0_2.length c0_2)) (ds := []) (bm 8 0) (by kernel_rfl) rfl rfl ⟨(blk_cell BK810.out 0).trans rfl, (blk_cell BK810.out 1).trans rfl, (blk_cell BK810.out 2).trans rfl⟩ (fun hHeld => ?_); refine with_tabW codewrightref38_Forney.tab8 codewrightref38_Forney.bits8 (fun HT_ HW_ => ?_)
   generalize w36.drew = w37 at HO815 BK810 HB hHeld ⊢
   refine pure_ (i := 1) (N := some 30) (v := ?_) (a' := ?_) (bm 8 2) rfl rfl (any_of HT_.out (by kernel_rfl)) (fun _ _ _ h => h) (Or.inl ⟨by rfl, ?_⟩) ?_ ?_;rotate_left;(intro w';go_simp;with_reducible rfl);rotate_left;(simp only [ps_];rfl)
   refine pure_ (i := 3) (N := some 32) (v := ?_) (a' := ?_) (bm 8 10) rfl rfl (any_of HT_.out (by kernel_rfl)) (fun _ _ _ h => h) (Or.inl ⟨by rfl, ?_⟩) ?_ ?_;rotate_left;(intro w';go_simp;with_reducible rfl);rotate_left;(simp only [ps_];rfl)
   refine pure_ (i := 4) (N := some 33) (v := ?_) (a' := ?_) (bm 8 26) rfl rfl (any_of HT_.out (by kernel_rfl)) (fun _ _ _ h => h) (Or.inl ⟨by rfl, ?_⟩) ?_ ?_;rotate_left;(intro w';go_simp;with_reducible rfl);rotate_left;(simp only [ps_];rfl)
   refine take_ (i := 0) (N := some 29) (v := ?_) (a' := ?_) (bm 8 27) rfl rfl (take_ofW HT_.out HW_.out (by kernel_rfl)) (fun _ _ _ h => h) (Or.inl ⟨by rfl, ?_⟩) hHeld ?_ ?_;rotate_left;(rintro w' ⟨s0, s1, s2⟩;go_simp;with_reducible rfl);rotate_left;(simp only [ps_];rfl)
   refine take_ (i := 2) (N := some 31) (v := ?_) (a' := ?_) (bm 8 31) rfl rfl (take_ofW HT_.out HW_.out (by kernel_rfl)) (fun _ _ _ h => h) (Or.inl ⟨by rfl, ?_⟩) hHeld ?_ ?_;rotate_left;(rintro w' ⟨s0, s1, s2⟩;go_simp;with_reducible rfl);rotate_left;(simp only [ps_];rfl)
   refine one_ (i := 5) (N := some 34) (bm 8 63) rfl rfl (one_of HT_.out (by kernel_rfl)) (by decide) (fun K hK => ?_)
   refine goes_ Try.func39 (by kernel_rfl) rfl #[.agg #[.int .i64 a0_0, .int .i64 a0_1, .slice A0_2 l0_2.length c0_2], .slice A2 l2.length c2, .int .i64 t812] (by rfl) rfl rfl (by ((simp only [List.map_toArray, List.map_cons, List.map_nil])); (rfl)) ?_
   with_reducible refine (codewrightref05_Eval.calls k a0_0 a0_1 _ _ l0_2 _ _ l2 t812 t817 _ ?side1 ?side2 ?side3 ?side4 A23.out).mono ?_
   (case side1 => repeat ((exact (Kd.C_below HR0_2.out HB.out))))
   (case side2 => exact HC0_2.out)
   (case side3 => repeat ((exact (Kd.C_below HR2.out HB.out))))
   (case side4 => exact HC2.out)
   rintro e w38 ⟨rfl, hb⟩
   refine ⟨_, rfl, ?_⟩
   have n0_ := Aside0.mk (Kd.R_below HO815.out hb)
   have n1_ := Aside0.mk (blk_below (g := gb810) (o := .cells #[.int .i64 a0_0, .int .i64 a0_1, .slice A0_2 l0_2.length c0_2] 24 (0, 0)) BK810.out hb)
   have n2_ := Aside0.mk (below_step HB.out hb)
   clear HO815 BK810 HB
   have HO815 := n0_
   have BK810 := n1_
   have HB := n2_
   clear n0_ n1_ n2_
   ((clear hb))
   refine hK.out _ _ ⟨(blk_cell BK810.out 0).trans rfl, (blk_cell BK810.out 1).trans rfl, (blk_cell BK810.out 2).trans rfl⟩ (fun hHeld => ?_)
   clear hK K
   refine norm_ (a' := ?_) ?_ ?_
   rotate_left
   ·show Act.put _ (some 34) _ = _
    simp only [Act.put, List.setIfInBounds_toArray, List.set_cons_zero, List.set_cons_succ, i64_w, i32_w]
    rfl
   refine one_ (i := 6) (N := some 35) (bm 8 127) rfl rfl (one_of HT_.out (by kernel_rfl)) (by decide) (fun K hK => ?_)
   refine goes_ Try.func38 (by kernel_rfl) rfl #[.agg #[.int .i64 a0_0, .int .i64 a0_1, .slice A0_2 l0_2.length c0_2], .int .i64 t811, .int .i64 t817] (by rfl) rfl rfl (by ((simp only [List.map_toArray, List.map_cons, List.map_nil])); (rfl)) ?_
   with_reducible refine (codewrightref04_Mul.calls k a0_0 a0_1 _ _ l0_2 t811 t817 t818 _ ?side1 ?side2 A24.out).mono ?_
   (case side1 => repeat ((exact (Kd.C_below HR0_2.out HB.out))))
   (case side2 => exact HC0_2.out)
   rintro e w39 ⟨rfl, hb⟩
   refine ⟨_, rfl, ?_⟩
   have n0_ := Aside0.mk (Kd.R_below HO815.out hb)
   have n1_ := Aside0.mk (blk_below (g := gb810) (o := .cells #[.int .i64 a0_0, .int .i64 a0_1, .slice A0_2 l0_2.length c0_2] 24 (0, 0)) BK810.out hb)
   have n2_ := Aside0.mk (below_step HB.out hb)
   clear HO815 BK810 HB
   have HO815 := n0_
   have BK810 := n1_
   have HB := n2_
   clear n0_ n1_ n2_
   ((clear hb))
   refine hK.out _ _ ⟨(blk_cell BK810.out 0).trans rfl, (blk_cell BK810.out 1).trans rfl, (blk_cell BK810.out 2).trans rfl⟩ (fun hHeld => ?_)
   clear hK K
   refine norm_ (a' := ?_) ?_ ?_
   rotate_left
   ·show Act.put _ (some 35) _ = _
    simp only [Act.put, List.setIfInBounds_toArray, List.set_cons_zero, List.set_cons_succ, i64_w, i32_w]
    rfl
   refine pure_ (i := 7) (N := some 12) (v := ?_) (a' := ?_) (bm 8 255) rfl rfl (any_of HT_.out (by kernel_rfl)) (fun _ _ _ h => h) (Or.inl ⟨by rfl, ?_⟩) ?_ ?_;rotate_left;(intro w';go_simp;with_reducible rfl);rotate_left;(simp only [ps_];rfl)
   refine done_ (done_of HT_.out (by kernel_rfl)) ?_
   (go_wp2)
   have n0_ := Aside0.mk (Kd.R_drew HO815.out)
   have n1_ := Aside0.mk (blk_drew BK810.out)
   have n2_ := Aside0.mk (below_drew1 HB.out)
   clear HO815 BK810 HB
   have HO815 := n0_
   have BK810 := n1_
   have HB := n2_
   clear n0_ n1_ n2_
   refine start_ (n := 10) (S := fun w' => w'.cell? ⟨gb810, 0, none⟩ = some (.int .i64 a0_0) ∧ w'.cell? ⟨gb810, 1, none⟩ = some (.int .i64 a0_1) ∧ w'.cell? ⟨gb810, 2, none⟩ = some (.slice A0_2 l0_2.length c0_2)) (ds := []) (bm 10 0) (by kernel_rfl) rfl rfl ⟨(blk_cell BK810.out 0).trans rfl, (blk_cell BK810.out 1).trans rfl, (blk_cell BK810.out 2).trans rfl⟩ (fun hHeld => ?_); refine with_tabW codewrightref38_Forney.tab9 codewrightref38_Forney.bits9 (fun HT_ HW_ => ?_)
   generalize w39.drew = w40 at HO815 BK810 HB hHeld ⊢
   refine pure_ (i := 2) (N := some 38) (v := ?_) (a' := ?_) (bm 10 4) rfl rfl (any_of HT_.out (by kernel_rfl)) (fun _ _ _ h => h) (Or.inl ⟨by rfl, ?_⟩) ?_ ?_;rotate_left;(intro w';go_simp;with_reducible rfl);rotate_left;(simp only [ps_];rfl)
   refine pure_ (i := 4) (N := some 40) (v := ?_) (a' := ?_) (bm 10 20) rfl rfl (any_of HT_.out (by kernel_rfl)) (fun _ _ _ h => h) (Or.inl ⟨by rfl, ?_⟩) ?_ ?_;rotate_left;(intro w';go_simp;with_reducible rfl);rotate_left;(simp only [ps_];rfl)
   refine take_ (i := 0) (N := some 36) (v := ?_) (a' := ?_) (bm 10 21) rfl rfl (take_ofW HT_.out HW_.out (by kernel_rfl)) (fun _ _ _ h => h) (Or.inl ⟨by rfl, ?_⟩) hHeld ?_ ?_;rotate_left;(rintro w' ⟨s0, s1, s2⟩;go_simp;with_reducible rfl);rotate_left;(simp only [ps_];rfl)
   refine take_ (i := 1) (N := some 37) (v := ?_) (a' := ?_) (bm 10 23) rfl rfl (take_ofW HT_.out HW_.out (by kernel_rfl)) (fun _ _ _ h => h) (Or.inl ⟨by rfl, ?_⟩) hHeld ?_ ?_;rotate_left;(rintro w' ⟨s0, s1, s2⟩;go_simp;with_reducible rfl);rotate_left;(simp only [ps_];rfl)
   refine take_ (i := 3) (N := some 39) (v := ?_) (a' := ?_) (bm 10 31) rfl rfl (take_ofW HT_.out HW_.out (by kernel_rfl)) (fun _ _ _ h => h) (Or.inl ⟨by rfl, ?_⟩) hHeld ?_ ?_;rotate_left;(rintro w' ⟨s0, s1, s2⟩;go_simp;with_reducible rfl);rotate_left;(simp only [ps_];rfl)
   refine one_ (i := 5) (N := some 41) (bm 10 63) rfl rfl (one_of HT_.out (by kernel_rfl)) (by decide) (fun K hK => ?_)
   refine goes_ Try.func64 (by kernel_rfl) rfl #[.agg #[.int .i64 a0_0, .int .i64 a0_1, .slice A0_2 l0_2.length c0_2], .int .i64 t816] (by rfl) rfl rfl (by ((simp only [List.map_toArray, List.map_cons, List.map_nil])); (rfl)) ?_
   with_reducible refine (codewrightref04_Inv.calls k a0_0 a0_1 _ _ l0_2 t816 t819 _ ?side1 ?side2 A25.out).mono ?_
   (case side1 => repeat ((exact (Kd.C_below HR0_2.out HB.out))))
   (case side2 => exact HC0_2.out)
   rintro e w41 ⟨rfl, hb⟩
   refine ⟨_, rfl, ?_⟩
   have n0_ := Aside0.mk (Kd.R_below HO815.out hb)
   have n1_ := Aside0.mk (blk_below (g := gb810) (o := .cells #[.int .i64 a0_0, .int .i64 a0_1, .slice A0_2 l0_2.length c0_2] 24 (0, 0)) BK810.out hb)
   have n2_ := Aside0.mk (below_step HB.out hb)
   clear HO815 BK810 HB
   have HO815 := n0_
   have BK810 := n1_
   have HB := n2_
   clear n0_ n1_ n2_
   ((clear hb))
   refine hK.out _ _ ⟨(blk_cell BK810.out 0).trans rfl, (blk_cell BK810.out 1).trans rfl, (blk_cell BK810.out 2).trans rfl⟩ (fun hHeld => ?_)
   clear hK K
   refine norm_ (a' := ?_) ?_ ?_
   rotate_left
   ·show Act.put _ (some 41) _ = _
    simp only [Act.put, List.setIfInBounds_toArray, List.set_cons_zero, List.set_cons_succ, i64_w, i32_w]
    rfl
   refine one_ (i := 6) (N := some 42) (bm 10 127) rfl rfl (one_of HT_.out (by kernel_rfl)) (by decide) (fun K hK => ?_)
   refine goes_ Try.func38 (by kernel_rfl) rfl #[.agg #[.int .i64 a0_0, .int .i64 a0_1, .slice A0_2 l0_2.length c0_2], .int .i64 t818, .int .i64 t819] (by rfl) rfl rfl (by ((simp only [List.map_toArray, List.map_cons, List.map_nil])); (rfl)) ?_
   with_reducible refine (codewrightref04_Mul.calls k a0_0 a0_1 _ _ l0_2 t818 t819 t820 _ ?side1 ?side2 A26.out).mono ?_
   (case side1 => repeat ((exact (Kd.C_below HR0_2.out HB.out))))
   (case side2 => exact HC0_2.out)
   rintro e w42 ⟨rfl, hb⟩
   refine ⟨_, rfl, ?_⟩
   have n0_ := Aside0.mk (Kd.R_below HO815.out hb)
   have n1_ := Aside0.mk (blk_below (g := gb810) (o := .cells #[.int .i64 a0_0, .int .i64 a0_1, .slice A0_2 l0_2.length c0_2] 24 (0, 0)) BK810.out hb)
   have n2_ := Aside0.mk (below_step HB.out hb)
   clear HO815 BK810 HB
   have HO815 := n0_
   have BK810 := n1_
   have HB := n2_
   clear n0_ n1_ n2_
   ((clear hb))
   refine hK.out _ _ ⟨(blk_cell BK810.out 0).trans rfl, (blk_cell BK810.out 1).trans rfl, (blk_cell BK810.out 2).trans rfl⟩ (fun hHeld => ?_)
   clear hK K
   refine norm_ (a' := ?_) ?_ ?_
   rotate_left
   ·show Act.put _ (some 42) _ = _
    simp only [Act.put, List.setIfInBounds_toArray, List.set_cons_zero, List.set_cons_succ, i64_w, i32_w]
    rfl
   refine one_ (i := 7) (N := some 43) (bm 10 255) rfl rfl (one_of HT_.out (by kernel_rfl)) (by decide) (fun K hK => ?_)
   refine goes_ Try.func59 (by kernel_rfl) rfl #[.agg #[.int .i64 a0_0, .int .i64 a0_1, .slice A0_2 l0_2.length c0_2], .int .i64 t820] (by rfl) rfl rfl (by ((simp only [List.map_toArray, List.map_cons, List.map_nil])); (rfl)) ?_
   with_reducible refine (codewrightref04_Neg.calls k a0_0 a0_1 _ _ l0_2 t820 t821 _ ?side1 ?side2 A27.out).mono ?_
   (case side1 => repeat ((exact (Kd.C_below HR0_2.out HB.out))))
   (case side2 => exact HC0_2.out)
   rintro e w43 ⟨rfl, hb⟩
   refine ⟨_, rfl, ?_⟩
   have n0_ := Aside0.mk (Kd.R_below HO815.out hb)
   have n1_ := Aside0.mk (blk_below (g := gb810) (o := .cells #[.int .i64 a0_0, .int .i64 a0_1, .slice A0_2 l0_2.length c0_2] 24 (0, 0)) BK810.out hb)
   have n2_ := Aside0.mk (below_step HB.out hb)
   clear HO815 BK810 HB
   have HO815 := n0_
   have BK810 := n1_
   have HB := n2_
   clear n0_ n1_ n2_
   ((clear hb))
   refine hK.out _ _ ⟨(blk_cell BK810.out 0).trans rfl, (blk_cell BK810.out 1).trans rfl, (blk_cell BK810.out 2).trans rfl⟩ (fun hHeld => ?_)
   clear hK K
   refine norm_ (a' := ?_) ?_ ?_
   rotate_left
   ·show Act.put _ (some 43) _ = _
    simp only [Act.put, List.setIfInBounds_toArray, List.set_cons_zero, List.set_cons_succ, i64_w, i32_w]
    rfl
   refine pure_ (i := 8) (N := some 8) (v := ?_) (a' := ?_) (bm 10 511) rfl rfl (any_of HT_.out (by kernel_rfl)) (fun _ _ _ h => h) (Or.inl ⟨by rfl, ?_⟩) ?_ ?_;rotate_left;(intro w';go_simp;with_reducible rfl);rotate_left;(simp only [ps_];rfl)
   refine pure_ (i := 9) (N := some 9) (v := ?_) (a' := ?_) (bm 10 1023) rfl rfl (any_of HT_.out (by kernel_rfl)) (fun _ _ _ h => h) (Or.inl ⟨by rfl, ?_⟩) ?_ ?_;rotate_left;(intro w';go_simp;with_reducible rfl);rotate_left;(simp only [ps_];rfl)
   refine done_ (done_of HT_.out (by kernel_rfl)) ?_
   (go_wp2)
   go_ret2
   exact ⟨by rfl, by exact HB.out⟩
end Go.Proofs.Ytkdakjlopheefaa.PA
end
section
namespace Go.Proofs.Ytkdakjlopheefaa.PA
open Go.RowKit Go.Proofs.YtkdakjlopheefaaW.PrintWords Go.Proofs.YtkdakjlopheefaaW.PrintLast Go.Proofs.YtkdakjlopheefaaW.PrintMore
attribute [local go_sem] max2_int min2_int max_two min_two max_three min_three max_four min_four
set_option linter.unusedVariables false
set_option linter.unusedSimpArgs false
end Go.Proofs.Ytkdakjlopheefaa.PA
end
section
namespace Go.Proofs.Ytkdakjlopheefaa.PA
open Go.RowKit Go.Proofs.YtkdakjlopheefaaW.PrintWords Go.Proofs.YtkdakjlopheefaaW.PrintLast Go.Proofs.YtkdakjlopheefaaW.PrintMore
theorem Ev.succ {α : Type} {g : Nat → Option α} {r : α} (h : Ev (fun k => g (k + 1)) r) : Ev g r := Ev.step (fun _ => rfl) h
theorem Ev.ifp {α : Type} {c : Prop} [Decidable c] {f g : Nat → Option α} {r : α} (h : c) (e : Ev f r) : Ev (fun k => if c then f k else g k) r := by simp only [if_pos h]; exact e
theorem Ev.ifn {α : Type} {c : Prop} [Decidable c] {f g : Nat → Option α} {r : α} (h : ¬ c) (e : Ev g r) : Ev (fun k => if c then f k else g k) r := by simp only [if_neg h]; exact e
theorem Ev.val {α : Type} {a r : α} (h : a = r) : Ev (fun _ => some a) r := h ▸ Ev.now a
theorem Ev.some_bind {α β : Type} {a : α} {f : Nat → α → Option β} {r : β} (h : Ev (fun k => f k a) r) : Ev (fun k => (some a).bind (f k)) r := h
theorem Ev.opt_bind {α β : Type} {o : Option α} {a : α} {f : Nat → α → Option β} {r : β} (h0 : o = some a) (h : Ev (fun k => f k a) r) : Ev (fun k => o.bind (f k)) r := by subst h0; exact h
theorem w64 {n : Int} (h : -4000000000000000000 ≤ n ∧ n ≤ 4000000000000000000) : wrap64 n = n := by unfold wrap64; omega
theorem rd_nat (xs : List Int) (j : Nat) : rd xs (j : Int) = xs.getD j 0 := by unfold rd; rw [Int.toNat_natCast]
theorem rd_set (xs : List Int) (i j : Nat) (v : Int) (h : i < xs.length) : (xs.set i v).getD j 0 = if i = j then v else xs.getD j 0 := by
  rw [List.getD_eq_getElem?_getD, List.getElem?_set]
  split
  · rename_i e; subst e; simp [h]
  · rw [List.getD_eq_getElem?_getD]
theorem tdiv_pos {a b : Int} (h : 0 ≤ a) : Int.tdiv a b = a / b := Int.tdiv_eq_ediv_of_nonneg h
theorem tmod_pos {a b : Int} (h : 0 ≤ a) : Int.tmod a b = a % b := Int.tmod_eq_emod_of_nonneg h
theorem getD_nat_lt (xs : List Int) (j : Nat) (h : xs.length ≤ j) : xs.getD j 0 = 0 := by
  rw [List.getD_eq_getElem?_getD, List.getElem?_eq_none h]; rfl
theorem getD_zeros (n j : Nat) : (List.replicate n (0 : Int)).getD j 0 = 0 := by
  rw [List.getD_eq_getElem?_getD, List.getElem?_replicate]; split <;> rfl
end Go.Proofs.Ytkdakjlopheefaa.PA
end
