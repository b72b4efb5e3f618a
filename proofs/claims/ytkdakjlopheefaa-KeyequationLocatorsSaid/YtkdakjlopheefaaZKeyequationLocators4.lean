/- Proved: for every input the law KeyequationLocators returns true and leaves its arguments as they were; no conditions. Part 5 of 6 of the proof. -/
import Derived.Test.YtkdakjlopheefaaZKeyequationLocators3
set_option linter.unusedSectionVars false
set_option linter.unusedSimpArgs false
set_option linter.unusedVariables false
section
namespace Go.Proofs.Ytkdakjlopheefaa.PA
open Go.RowKit Go.Proofs.YtkdakjlopheefaaW.PrintWords Go.Proofs.YtkdakjlopheefaaW.PrintLast Go.Proofs.YtkdakjlopheefaaW.PrintMore
attribute [local go_sem] max2_int min2_int max_two min_two max_three min_three max_four min_four
set_option linter.unusedVariables false
set_option linter.unusedSimpArgs false
mutual
def codewrightref05_Mul.l0 : Nat → List Int → List Int → List Int → Int → Int → Int → List Int → Option (List Int)
 | 0, _, _, _, _, _, _, _ => none
 | k + 1, x1, x2, x7, x8, x651000, x651001, x651002 => if x8 < (x1.length : Int) then (codewrightref05_Mul.l1 k x1 x2 x7 x8 0 x651000 x651001 x651002) else ((codewrightref05_Canon.f k x651000 x651001 x651002 x7).bind fun t660 => (some t660))
def codewrightref05_Mul.l1 : Nat → List Int → List Int → List Int → Int → Int → Int → Int → List Int → Option (List Int)
 | 0, _, _, _, _, _, _, _, _ => none
 | k + 1, x1, x2, x7, x8, x9, x651000, x651001, x651002 => if x9 < (x2.length : Int) then (if 0 ≤ (wrap64 (x8 + x9)) then (if (wrap64 (x8 + x9)) < (x7.length : Int) then (if 0 ≤ x8 then (if x8 < (x1.length : Int) then (if 0 ≤ x9 then ((codewrightref04_Mul.f k x651000 x651001 x651002 (rd x1 x8) (rd x2 x9)).bind fun t666 => ((codewrightref04_Add.f k x651000 x651001 x651002 (rd x7 (wrap64 (x8 + x9))) t666).bind fun t667 => (codewrightref05_Mul.l1 k x1 x2 (x7.set ((wrap64 (x8 + x9)) : Int).toNat t667) x8 (wrap64 (x9 + 1)) x651000 x651001 x651002))) else (none)) else (none)) else (none)) else (none)) else (none)) else (codewrightref05_Mul.l0 k x1 x2 x7 (wrap64 (x8 + 1)) x651000 x651001 x651002)
end
def codewrightref05_Mul.f (k : Nat) (a0_0 : Int) (a0_1 : Int) (l0_2 : List Int) (l1 : List Int) (l2 : List Int) : Option (List Int) := (codewrightref05_Canon.f k a0_0 a0_1 l0_2 l1).bind fun t651 => ((codewrightref05_Canon.f k a0_0 a0_1 l0_2 l2).bind fun t654 => (if 0 ≤ (wrap64 ((t651.length : Int) + (t654.length : Int))) then (if (wrap64 ((t651.length : Int) + (t654.length : Int)) : Int).toNat ≤ 35184372088832 then (codewrightref05_Mul.l0 k t651 t654 (List.replicate (wrap64 ((t651.length : Int) + (t654.length : Int)) : Int).toNat 0) 0 a0_0 a0_1 l0_2) else (none)) else (none)))
def codewrightref05_Mul.T10 : Bool × List (List Nat × List Nat) := (true, [([], []), ([], []), ([], []), ([1, 2], [1, 2]), ([], []), ([], []), ([], []), ([], []), ([6, 7], [6, 7]), ([5, 8], [5, 8]), ([9], [9]), ([], []), ([], []), ([], []), ([12, 13], [12, 13]), ([14], [14]), ([], []), ([], []), ([16, 17], [16, 17]), ([18], [18]), ([11, 15, 19], [11, 15, 19]), ([4, 10, 20, 20], [4, 10, 20]), ([0, 3, 0, 1, 2, 3, 4, 5, 6, 7, 8, 9, 10, 11, 12, 13, 14, 15, 16, 17, 18, 19, 20, 21], [0, 3]), ([22, 21, 21, 0, 1, 2, 3, 4, 5, 6, 7, 8, 9, 10, 11, 12, 13, 14, 15, 16, 17, 18, 19, 20, 21], [21, 22])])
def codewrightref05_Mul.B10 : List Nat := [0, 0, 0, 6, 0, 0, 0, 0, 192, 480, 992, 0, 0, 0, 12288, 28672, 0, 0, 196608, 458752, 1046528, 2097136, 4194303, 8388607]
theorem codewrightref05_Mul.tab10 : rtab .any (opsOf Try.f28 10) = codewrightref05_Mul.T10 := by kernel_rfl
theorem codewrightref05_Mul.bits10 : waitsOk codewrightref05_Mul.T10.2 codewrightref05_Mul.B10 = true := by kernel_rfl
set_option maxHeartbeats 8000000 in
set_option maxRecDepth 100000 in
theorem codewrightref05_Mul.calls (k : Nat) (a0_0 : Int) (a0_1 : Int) (A0_2 : Option Addr) (c0_2 : Nat) (l0_2 : List Int) (A1 : Option Addr) (c1 : Nat) (l1 : List Int) (A2 : Option Addr) (c2 : Nat) (l2 : List Int) (r : List Int) (w : World) (hr0_2 : Kd.C (Kd.int .i64) w A0_2 l0_2.length l0_2) (hc0_2 : l0_2.length ≤ c0_2) (hr1 : Kd.C (Kd.int .i64) w A1 l1.length l1) (hc1 : l1.length ≤ c1) (hr2 : Kd.C (Kd.int .i64) w A2 l2.length l2) (hc2 : l2.length ≤ c2) (h : codewrightref05_Mul.f k a0_0 a0_1 l0_2 l1 l2 = some r) :
  Calls Try.prog 28 #[.agg #[.int .i64 a0_0, .int .i64 a0_1, .slice A0_2 l0_2.length c0_2], .slice A1 l1.length c1, .slice A2 l2.length c2] w fun e w' => ∃ v0_ : Value, e = .returned (v0_) ∧ Kd.R (Kd.int .i64) 3 w' w.heap.size (fun _ => True) v0_ r ∧ Below w.heap.size w w' := by
 have hu24 := Try.underlying24
 have HR0_2 := Aside0.mk hr0_2
 have HC0_2 := Aside0.mk hc0_2
 clear hr0_2 hc0_2
 have HR1 := Aside0.mk hr1
 have HC1 := Aside0.mk hc1
 clear hr1 hc1
 have HR2 := Aside0.mk hr2
 have HC2 := Aside0.mk hc2
 clear hr2 hc2
 have HB := Aside0.mk (Below.refl w.heap.size w)
 have H : ((codewrightref05_Canon.f k a0_0 a0_1 l0_2 l1).bind fun t651 => ((codewrightref05_Canon.f k a0_0 a0_1 l0_2 l2).bind fun t654 => (if 0 ≤ (wrap64 ((t651.length : Int) + (t654.length : Int))) then (if (wrap64 ((t651.length : Int) + (t654.length : Int)) : Int).toNat ≤ 35184372088832 then (codewrightref05_Mul.l0 k t651 t654 (List.replicate (wrap64 ((t651.length : Int) + (t654.length : Int)) : Int).toNat 0) 0 a0_0 a0_1 l0_2) else (none)) else (none)))) = some r := h
 clear h
 obtain ⟨t651, A40, H⟩ := Option.bind_eq_some_iff.mp H
 replace H : ((codewrightref05_Canon.f k a0_0 a0_1 l0_2 l2).bind fun t654 => (if 0 ≤ (wrap64 ((t651.length : Int) + (t654.length : Int))) then (if (wrap64 ((t651.length : Int) + (t654.length : Int)) : Int).toNat ≤ 35184372088832 then (codewrightref05_Mul.l0 k t651 t654 (List.replicate (wrap64 ((t651.length : Int) + (t654.length : Int)) : Int).toNat 0) 0 a0_0 a0_1 l0_2) else (none)) else (none))) = some r := H
 have A4 := Aside0.mk A40
 clear A40
 obtain ⟨t654, A50, H⟩ := Option.bind_eq_some_iff.mp H
 replace H : (if 0 ≤ (wrap64 ((t651.length : Int) + (t654.length : Int))) then (if (wrap64 ((t651.length : Int) + (t654.length : Int)) : Int).toNat ≤ 35184372088832 then (codewrightref05_Mul.l0 k t651 t654 (List.replicate (wrap64 ((t651.length : Int) + (t654.length : Int)) : Int).toNat 0) 0 a0_0 a0_1 l0_2) else (none)) else (none)) = some r := H
 have A5 := Aside0.mk A50
 clear A50
 obtain ⟨ji6, hji6⟩ : ∃ j_ : Int, (wrap64 ((t651.length : Int) + (t654.length : Int))) = j_ := ⟨_, rfl⟩
 replace H : (if 0 ≤ (ji6) then (if (ji6 : Int).toNat ≤ 35184372088832 then (codewrightref05_Mul.l0 k t651 t654 (List.replicate (ji6 : Int).toNat 0) 0 a0_0 a0_1 l0_2) else (none)) else (none)) = some r := by (rw [hji6] at H; exact H)
 have hji6w : (IntKind.i64.wrap ((t651.length : Int) + (t654.length : Int))) = ji6 := (i64_w _).trans hji6
 by_cases c7 : 0 ≤ (ji6)
 ·rw [if_pos c7] at H
  have c7b0 := eq_true c7
  have c7b1 : decide (0 ≤ (ji6)) = true := decide_eq_true c7
  clear c7
  by_cases c8 : (ji6 : Int).toNat ≤ 35184372088832
  ·rw [if_pos c8] at H
   have c8b0 := eq_true c8
   have c8b1 : decide ((ji6 : Int).toNat ≤ 35184372088832) = true := decide_eq_true c8
   clear c8
   obtain ⟨y657, hy657⟩ : ∃ y_ : List Int, y_ = (List.replicate (ji6 : Int).toNat 0) := ⟨_, rfl⟩
   replace H : (codewrightref05_Mul.l0 k t651 t654 y657 0 a0_0 a0_1 l0_2) = some r := by (rw [hy657]; with_reducible exact H)
   have Ny657 := Aside0.mk hy657
   clear hy657
   have H' := Aside0.mk H
   clear H
   go_enter Try.func28, Try.ntmps28
   go_wp2_with (first | ((with_reducible refine gate_dst (N := 3) rfl ?_); refine box_event ?hg (N := 3) ?hd (cs := #[.int .i64 a0_0, .int .i64 a0_1, .slice A0_2 l0_2.length c0_2]) (t := 24) ?hr ?_; (case hd => rfl); (case hg => rfl); (case hr => (go_simp; done)); intro gb650 hg w9 hbox hb; have n0_ := Aside0.mk (below_step HB.out hb); have n1_ := Aside0.mk (hbox); have n2_ := Aside0.mk ((by rw [hg]; exact (below_size HB.out) : w.heap.size ≤ gb650)); have n3_ := Aside0.mk ((by rw [hg]; exact (below_size HB.out) : w.heap.size ≤ gb650)); clear HB; have HB := n0_; have BK650 := n1_; have GW650 := n2_; have GE650 := n3_; clear n0_ n1_ n2_ n3_; clear hb hbox hg; have hcz10_0 : w9.cell? ⟨gb650, 0, none⟩ = some (.int .i64 a0_0) := (blk_cell BK650.out 0).trans rfl; have hcz10_1 : w9.cell? ⟨gb650, 1, none⟩ = some (.int .i64 a0_1) := (blk_cell BK650.out 1).trans rfl; have hcz10_2 : w9.cell? ⟨gb650, 2, none⟩ = some (.slice A0_2 l0_2.length c0_2) := (blk_cell BK650.out 2).trans rfl; have hfz10_0 := blk_frozen BK650.out 0; have hfz10_1 := blk_frozen BK650.out 1; have hfz10_2 := blk_frozen BK650.out 2) | ((with_reducible refine gate_callee (f := 23) rfl ?_); refine goesL_ (some 12) rfl rfl Try.func23 (by kernel_rfl) rfl #[.agg #[.int .i64 a0_0, .int .i64 a0_1, .slice A0_2 l0_2.length c0_2], .slice A1 l1.length c1] rfl (by ((simp only [List.map_toArray, List.map_cons, List.map_nil])); (rfl)) ?_; (with_reducible refine (codewrightref05_Canon.calls k a0_0 a0_1 _ _ l0_2 _ _ l1 t651 _ ?side1 ?side2 ?side3 ?side4 A4.out).mono ?_); (case side1 => repeat ((exact (Kd.C_below HR0_2.out HB.out)))); (case side2 => exact HC0_2.out); (case side3 => repeat ((exact (Kd.C_below HR1.out HB.out)))); (case side4 => exact HC1.out); rintro e w11 ⟨v652, rfl, ho0, hb⟩; refine ⟨_, rfl, ?_⟩; have n0_ := Aside0.mk (Kd.R_lower ho0 (below_size HB.out)); have n1_ := Aside0.mk (blk_below (g := gb650) (o := .cells #[.int .i64 a0_0, .int .i64 a0_1, .slice A0_2 l0_2.length c0_2] 24 (0, 0)) BK650.out hb); have n2_ := Aside0.mk (below_step HB.out hb); clear BK650; clear HB; have HO653 := n0_; have BK650 := n1_; have HB := n2_; clear n0_ n1_ n2_; ((clear hb)); (skip); (skip); (skip); ((clear ho0)); have hcz12_0 : w11.cell? ⟨gb650, 0, none⟩ = some (.int .i64 a0_0) := (blk_cell BK650.out 0).trans rfl; have hcz12_1 : w11.cell? ⟨gb650, 1, none⟩ = some (.int .i64 a0_1) := (blk_cell BK650.out 1).trans rfl; have hcz12_2 : w11.cell? ⟨gb650, 2, none⟩ = some (.slice A0_2 l0_2.length c0_2) := (blk_cell BK650.out 2).trans rfl; have hfz12_0 := blk_frozen BK650.out 0; have hfz12_1 := blk_frozen BK650.out 1; have hfz12_2 := blk_frozen BK650.out 2) | ((with_reducible refine gate_callee (f := 23) rfl ?_); refine goesL_ (some 15) rfl rfl Try.func23 (by kernel_rfl) rfl #[.agg #[.int .i64 a0_0, .int .i64 a0_1, .slice A0_2 l0_2.length c0_2], .slice A2 l2.length c2] rfl (by ((simp only [List.map_toArray, List.map_cons, List.map_nil])); (rfl)) ?_; (with_reducible refine (codewrightref05_Canon.calls k a0_0 a0_1 _ _ l0_2 _ _ l2 t654 _ ?side1 ?side2 ?side3 ?side4 A5.out).mono ?_); (case side1 => repeat ((exact (Kd.C_below HR0_2.out HB.out)))); (case side2 => exact HC0_2.out); (case side3 => repeat ((exact (Kd.C_below HR2.out HB.out)))); (case side4 => exact HC2.out); rintro e w13 ⟨v655, rfl, ho0, hb⟩; refine ⟨_, rfl, ?_⟩; have n0_ := Aside0.mk (Kd.R_elder' HO653.out (Kd.R_base ho0) hb); have n1_ := Aside0.mk (Kd.R_lower (Kd.R_new' ho0 (Kd.R_lt HO653.out)) (below_size HB.out)); have n2_ := Aside0.mk (blk_below (g := gb650) (o := .cells #[.int .i64 a0_0, .int .i64 a0_1, .slice A0_2 l0_2.length c0_2] 24 (0, 0)) BK650.out hb); have n3_ := Aside0.mk (below_step HB.out hb); clear HO653; clear BK650; clear HB; have HO653 := n0_; have HO656 := n1_; have BK650 := n2_; have HB := n3_; clear n0_ n1_ n2_ n3_; ((clear hb)); (skip); (skip); (skip); ((clear ho0)); obtain ⟨Ao14, co14, eo14⟩ := Kd.R_slice HO653.out; subst eo14; obtain ⟨Ao15, co15, eo15⟩ := Kd.R_slice HO656.out; subst eo15) | ((with_reducible refine gate_dst (N := 21) rfl ?_); refine Kd.R_make (Kd.int .i64) _ 3 rfl (N := 21) rfl 22 _ _ rfl ji6 rfl rfl Try.underlying22 (.int .i64 0) 8 info3 rfl (by decide) (by omega) 0 (ok := fun _ => True) (okp := fun _ => True) rfl (fun _ hk => hk) trivial (of_decide_eq_true (by (with_reducible assumption))) (Nat.le_trans (Nat.mul_le_mul_right _ (of_decide_eq_true (by (with_reducible assumption)) : ji6.toNat ≤ 35184372088832)) (by omega)) (Below.refl _ _) (Nat.le_refl _) ?_; intro v658 w16 ho17 hb hg_ hnew_; clear hg_ hnew_; ((rw [← Ny657.out] at ho17)); have n0_ := Aside0.mk (Kd.R_elder' HO653.out (Kd.R_base ho17) hb); have n1_ := Aside0.mk (Kd.R_elder' HO656.out (Kd.R_base ho17) hb); have n2_ := Aside0.mk (Kd.R_lower (Kd.R_new' (Kd.R_new' ho17 (Kd.R_lt HO653.out)) (Kd.R_lt HO656.out)) (below_size HB.out)); have n3_ := Aside0.mk (blk_below (g := gb650) (o := .cells #[.int .i64 a0_0, .int .i64 a0_1, .slice A0_2 l0_2.length c0_2] 24 (0, 0)) BK650.out hb); have n4_ := Aside0.mk (below_step HB.out hb); clear HO653; clear HO656; clear BK650; clear HB; have HO653 := n0_; have HO656 := n1_; have HO659 := n2_; have BK650 := n3_; have HB := n4_; clear n0_ n1_ n2_ n3_ n4_; clear hb ho17))
   go_loopg [8] k (fun kq v8 w' => ∃ (x7_1 : List Int) (x8_1 : Int), v8 = .int .i64 x8_1 ∧ Aside0 (codewrightref05_Mul.l0 kq t651 t654 x7_1 x8_1 a0_0 a0_1 l0_2 = some r) ∧ Aside0 (kq ≤ k) ∧ Aside0 (Kd.R (Kd.int .i64) 3 w' w.heap.size (fun k_ => some k_ ≠ ((.slice Ao15 t654.length co15) : Value).ownBlock ∧ some k_ ≠ (v658 : Value).ownBlock) (.slice Ao14 t651.length co14) t651) ∧ Aside0 (Kd.R (Kd.int .i64) 3 w' w.heap.size (fun k_ => some k_ ≠ ((.slice Ao14 t651.length co14) : Value).ownBlock ∧ some k_ ≠ (v658 : Value).ownBlock) (.slice Ao15 t654.length co15) t654) ∧ Aside0 (Kd.R (Kd.int .i64) 3 w' w.heap.size (fun k_ => some k_ ≠ ((.slice Ao14 t651.length co14) : Value).ownBlock ∧ some k_ ≠ ((.slice Ao15 t654.length co15) : Value).ownBlock) v658 x7_1) ∧ Aside0 (w'.heap[gb650]? = some (.cells #[.int .i64 a0_0, .int .i64 a0_1, (.slice A0_2 l0_2.length c0_2)] 24 (0, 0))) ∧ Aside0 (Below w.heap.size w w'))
   case atStart => exact ⟨(y657), (0), (by rfl), H', ⟨Nat.le_refl _⟩, ⟨by exact Kd.R_mono HO653.out (fun _ hk => ⟨hk.1.2, hk.2⟩)⟩, ⟨by exact Kd.R_mono HO656.out (fun _ hk => ⟨hk.1.2, hk.2⟩)⟩, ⟨by exact Kd.R_mono HO659.out (fun _ hk => ⟨hk.1.2, hk.2⟩)⟩, ⟨BK650.out⟩, ⟨HB.out⟩⟩
   case round =>
    clear H' c7b0 c7b1 c8b0 c8b1 hcz10_0 hcz10_1 hcz10_2 hcz12_0 hcz12_1 hcz12_2 hfz10_0 hfz10_1 hfz10_2 hfz12_0 hfz12_1 hfz12_2
    obtain ⟨x7_1, x8_1, rfl, HA, HK1, HO_1, HO_2, HO_7, BK650, HB⟩ := hrel
    cases gk with
    | zero => exact absurd HA.out (by simp [codewrightref05_Mul.l0])
    | succ k1 =>
     have H := HA.out
     clear HA
     simp only [codewrightref05_Mul.l0] at H
     by_cases c18 : x8_1 < (t651.length : Int)
     ·rw [if_pos c18] at H
      have c18b0 : decide (x8_1 < (t651.length : Int)) = true := decide_eq_true c18
      clear c18
      have H' := Aside0.mk H
      clear H
      go_wp2
      go_loopg [9] k1 (fun kq v9 w' => ∃ (x7_2 : List Int) (x9_2 : Int), v9 = .int .i64 x9_2 ∧ Aside0 (codewrightref05_Mul.l1 kq t651 t654 x7_2 x8_1 x9_2 a0_0 a0_1 l0_2 = some r) ∧ Aside0 (kq ≤ k1) ∧ Aside0 (Kd.R (Kd.int .i64) 3 w' w.heap.size (fun k_ => some k_ ≠ ((.slice Ao15 t654.length co15) : Value).ownBlock ∧ some k_ ≠ (v658 : Value).ownBlock) (.slice Ao14 t651.length co14) t651) ∧ Aside0 (Kd.R (Kd.int .i64) 3 w' w.heap.size (fun k_ => some k_ ≠ ((.slice Ao14 t651.length co14) : Value).ownBlock ∧ some k_ ≠ (v658 : Value).ownBlock) (.slice Ao15 t654.length co15) t654) ∧ Aside0 (Kd.R (Kd.int .i64) 3 w' w.heap.size (fun k_ => some k_ ≠ ((.slice Ao14 t651.length co14) : Value).ownBlock ∧ some k_ ≠ ((.slice Ao15 t654.length co15) : Value).ownBlock) v658 x7_2) ∧ Aside0 (w'.heap[gb650]? = some (.cells #[.int .i64 a0_0, .int .i64 a0_1, (.slice A0_2 l0_2.length c0_2)] 24 (0, 0))) ∧ Aside0 (Below w.heap.size w w'))
      case atStart => exact ⟨(x7_1), (0), (by rfl), H', ⟨Nat.le_refl _⟩, ⟨HO_1.out⟩, ⟨HO_2.out⟩, ⟨HO_7.out⟩, ⟨BK650.out⟩, ⟨HB.out⟩⟩
      case round =>
       clear H' c18b0
       obtain ⟨x7_2, x9_2, rfl, HA, HK2, HO_1, HO_2, HO_7, BK650, HB⟩ := hrel
       cases gk with
       | zero => exact absurd HA.out (by simp [codewrightref05_Mul.l1])
       | succ k2 =>
        have H := HA.out
        clear HA
        simp only [codewrightref05_Mul.l1] at H
        by_cases c19 : x9_2 < (t654.length : Int)
        ·rw [if_pos c19] at H
         have c19b0 : decide (x9_2 < (t654.length : Int)) = true := decide_eq_true c19
         clear c19
         obtain ⟨ji20, hji20⟩ : ∃ j_ : Int, (wrap64 (x8_1 + x9_2)) = j_ := ⟨_, rfl⟩
         replace H : (if 0 ≤ (ji20) then (if (ji20) < (x7_2.length : Int) then (if 0 ≤ x8_1 then (if x8_1 < (t651.length : Int) then (if 0 ≤ x9_2 then ((codewrightref04_Mul.f k2 a0_0 a0_1 l0_2 (rd t651 x8_1) (rd t654 x9_2)).bind fun t666 => ((codewrightref04_Add.f k2 a0_0 a0_1 l0_2 (rd x7_2 (ji20)) t666).bind fun t667 => (codewrightref05_Mul.l1 k2 t651 t654 (x7_2.set ((ji20) : Int).toNat t667) x8_1 (wrap64 (x9_2 + 1)) a0_0 a0_1 l0_2))) else (none)) else (none)) else (none)) else (none)) else (none)) = some r := by (rw [hji20] at H; exact H)
         have hji20w : (IntKind.i64.wrap (x8_1 + x9_2)) = ji20 := (i64_w _).trans hji20
         by_cases c21 : 0 ≤ (ji20)
         ·rw [if_pos c21] at H
          have c21b0 : decide (0 ≤ (ji20)) = true := decide_eq_true c21
          clear c21
          by_cases c22 : (ji20) < (x7_2.length : Int)
          ·rw [if_pos c22] at H
           have c22b0 : decide ((ji20) < (x7_2.length : Int)) = true := decide_eq_true c22
           clear c22
           by_cases c23 : 0 ≤ x8_1
           ·rw [if_pos c23] at H
            have c23b0 : decide (0 ≤ x8_1) = true := decide_eq_true c23
            clear c23
            by_cases c24 : x8_1 < (t651.length : Int)
            ·rw [if_pos c24] at H
             have c24b0 : decide (x8_1 < (t651.length : Int)) = true := decide_eq_true c24
             clear c24
             by_cases c25 : 0 ≤ x9_2
             ·rw [if_pos c25] at H
              have c25b0 : decide (0 ≤ x9_2) = true := decide_eq_true c25
              clear c25
              obtain ⟨t666, A260, H⟩ := Option.bind_eq_some_iff.mp H
              replace H : ((codewrightref04_Add.f k2 a0_0 a0_1 l0_2 (rd x7_2 (ji20)) t666).bind fun t667 => (codewrightref05_Mul.l1 k2 t651 t654 (x7_2.set ((ji20) : Int).toNat t667) x8_1 (wrap64 (x9_2 + 1)) a0_0 a0_1 l0_2)) = some r := H
              have A26 := Aside0.mk A260
              clear A260
              obtain ⟨t667, A270, H⟩ := Option.bind_eq_some_iff.mp H
              replace H : (codewrightref05_Mul.l1 k2 t651 t654 (x7_2.set ((ji20) : Int).toNat t667) x8_1 (wrap64 (x9_2 + 1)) a0_0 a0_1 l0_2) = some r := H
              have A27 := Aside0.mk A270
              clear A270
              obtain ⟨y668, hy668⟩ : ∃ y_ : List Int, y_ = (x7_2.set ((ji20) : Int).toNat t667) := ⟨_, rfl⟩
              replace H : (codewrightref05_Mul.l1 k2 t651 t654 y668 x8_1 (wrap64 (x9_2 + 1)) a0_0 a0_1 l0_2) = some r := by (rw [hy668]; with_reducible exact H)
              have Ny668 := Aside0.mk hy668
              clear hy668
              have H' := Aside0.mk H
              clear H
              (go_wp2)
              have n0_ := Aside0.mk (Kd.R_drew HO_1.out)
              have n1_ := Aside0.mk (Kd.R_drew HO_2.out)
              have n2_ := Aside0.mk (Kd.R_drew HO_7.out)
              have n3_ := Aside0.mk (blk_drew BK650.out)
              have n4_ := Aside0.mk (below_drew1 HB.out)
              clear HO_1 HO_2 HO_7 BK650 HB
              have HO_1 := n0_
              have HO_2 := n1_
              have HO_7 := n2_
              have BK650 := n3_
              have HB := n4_
              clear n0_ n1_ n2_ n3_ n4_
              obtain ⟨Ao30, co30, eo30⟩ := Kd.R_slice HO_7.out
              ((subst eo30))
              have p663 : 0 ≤ ((ji20) : Int) := of_decide_eq_true (by (with_reducible assumption))
              have q663 : (ji20) < (x7_2.length : Int) := of_decide_eq_true (by (with_reducible assumption))
              obtain ⟨ad663, e663, hx663_0⟩ := Kd.at_int (Kd.R_reads' HO_7.out).2.2 (ji20) p663 q663
              cases e663
              replace p663 := eq_true p663
              replace q663 := eq_true q663
              have p664 : 0 ≤ (x8_1 : Int) := of_decide_eq_true (by (with_reducible assumption))
              have q664 : x8_1 < (t651.length : Int) := of_decide_eq_true (by (with_reducible assumption))
              obtain ⟨ad664, e664, hx664_0⟩ := Kd.at_int (Kd.R_reads' HO_1.out).2.2 x8_1 p664 q664
              cases e664
              replace p664 := eq_true p664
              replace q664 := eq_true q664
              have p665 : 0 ≤ (x9_2 : Int) := of_decide_eq_true (by (with_reducible assumption))
              have q665 : x9_2 < (t654.length : Int) := of_decide_eq_true (by (with_reducible assumption))
              obtain ⟨ad665, e665, hx665_0⟩ := Kd.at_int (Kd.R_reads' HO_2.out).2.2 x9_2 p665 q665
              cases e665
              replace p665 := eq_true p665
              replace q665 := eq_true q665
              refine start_ (n := 24) (S := fun w' => w'.cell? ⟨gb650, 0, none⟩ = some (.int .i64 a0_0) ∧ w'.cell? ⟨gb650, 1, none⟩ = some (.int .i64 a0_1) ∧ w'.cell? ⟨gb650, 2, none⟩ = some (.slice A0_2 l0_2.length c0_2) ∧ w'.cell? (ad663.add ((ji20)).toNat) = some (.int .i64 (rd x7_2 (ji20))) ∧ w'.cell? (ad664.add (x8_1).toNat) = some (.int .i64 (rd t651 x8_1)) ∧ w'.cell? (ad665.add (x9_2).toNat) = some (.int .i64 (rd t654 x9_2))) (ds := [23]) (bm 24 0) (by kernel_rfl) rfl rfl ⟨(blk_cell BK650.out 0).trans rfl, (blk_cell BK650.out 1).trans rfl, (blk_cell BK650.out 2).trans rfl, hx663_0, hx664_0, hx665_0⟩ (fun hHeld => ?_); refine with_tabW codewrightref05_Mul.tab10 codewrightref05_Mul.bits10 (fun HT_ HW_ => ?_)
              generalize wr.drew = w29 at HO_1 HO_2 HO_7 BK650 HB hx663_0 hx664_0 hx665_0 hHeld ⊢
              refine pure_ (i := 0) (N := some 34) (v := ?_) (a' := ?_) (bm 24 1) rfl rfl (any_of HT_.out (by kernel_rfl)) (fun _ _ _ h => h) (Or.inl ⟨by rfl, ?_⟩) ?_ ?_;rotate_left;(intro w';go_simp;with_reducible rfl);rotate_left;(simp only [ps_];rfl)
              refine pure_ (i := 1) (N := some 35) (v := ?_) (a' := ?_) (bm 24 3) rfl rfl (any_of HT_.out (by kernel_rfl)) (fun _ _ _ h => h) (Or.inl ⟨by rfl, ?_⟩) ?_ ?_;rotate_left;(intro w';go_simp;with_reducible rfl);rotate_left;(simp only [ps_];rfl)
              refine pure_ (i := 2) (N := some 36) (v := ?_) (a' := ?_) (bm 24 7) rfl rfl (any_of HT_.out (by kernel_rfl)) (fun _ _ _ h => h) (Or.inl ⟨by rfl, ?_⟩) ?_ ?_;rotate_left;(intro w';go_simp;with_reducible rfl);rotate_left;(simp only [ps_];rfl)
              refine pure_ (i := 3) (N := some 37) (v := ?_) (a' := ?_) (bm 24 15) rfl rfl (any_of HT_.out (by kernel_rfl)) (fun _ _ _ h => h) (Or.inl ⟨by rfl, ?_⟩) ?_ ?_;rotate_left;(intro w';go_simp;with_reducible rfl);rotate_left;(simp only [ps_];rfl)
              refine pure_ (i := 5) (N := some 39) (v := ?_) (a' := ?_) (bm 24 47) rfl rfl (any_of HT_.out (by kernel_rfl)) (fun _ _ _ h => h) (Or.inl ⟨by rfl, ?_⟩) ?_ ?_;rotate_left;(intro w';go_simp;with_reducible rfl);rotate_left;(simp only [ps_];rfl)
              refine pure_ (i := 6) (N := some 40) (v := ?_) (a' := ?_) (bm 24 111) rfl rfl (any_of HT_.out (by kernel_rfl)) (fun _ _ _ h => h) (Or.inl ⟨by rfl, ?_⟩) ?_ ?_;rotate_left;(intro w';go_simp;with_reducible rfl);rotate_left;(simp only [ps_];rfl)
              refine pure_ (i := 7) (N := some 41) (v := ?_) (a' := ?_) (bm 24 239) rfl rfl (any_of HT_.out (by kernel_rfl)) (fun _ _ _ h => h) (Or.inl ⟨by rfl, ?_⟩) ?_ ?_;rotate_left;(intro w';go_simp;with_reducible rfl);rotate_left;(simp only [ps_];rfl)
              refine pure_ (i := 8) (N := some 42) (v := ?_) (a' := ?_) (bm 24 495) rfl rfl (any_of HT_.out (by kernel_rfl)) (fun _ _ _ h => h) (Or.inl ⟨by rfl, ?_⟩) ?_ ?_;rotate_left;(intro w';go_simp;with_reducible rfl);rotate_left;(simp only [ps_];rfl)
              refine pure_ (i := 9) (N := some 43) (v := ?_) (a' := ?_) (bm 24 1007) rfl rfl (any_of HT_.out (by kernel_rfl)) (fun _ _ _ h => h) (Or.inl ⟨by rfl, ?_⟩) ?_ ?_;rotate_left;(intro w';go_simp;with_reducible rfl);rotate_left;(simp only [ps_];rfl)
              refine pure_ (i := 12) (N := some 46) (v := ?_) (a' := ?_) (bm 24 5103) rfl rfl (any_of HT_.out (by kernel_rfl)) (fun _ _ _ h => h) (Or.inl ⟨by rfl, ?_⟩) ?_ ?_;rotate_left;(intro w';go_simp;with_reducible rfl);rotate_left;(simp only [ps_];rfl)
              refine pure_ (i := 13) (N := some 47) (v := ?_) (a' := ?_) (bm 24 13295) rfl rfl (any_of HT_.out (by kernel_rfl)) (fun _ _ _ h => h) (Or.inl ⟨by rfl, ?_⟩) ?_ ?_;rotate_left;(intro w';go_simp;with_reducible rfl);rotate_left;(simp only [ps_];rfl)
              refine pure_ (i := 14) (N := some 48) (v := ?_) (a' := ?_) (bm 24 29679) rfl rfl (any_of HT_.out (by kernel_rfl)) (fun _ _ _ h => h) (Or.inl ⟨by rfl, ?_⟩) ?_ ?_;rotate_left;(intro w';go_simp;with_reducible rfl);rotate_left;(simp only [ps_];rfl)
              refine pure_ (i := 16) (N := some 50) (v := ?_) (a' := ?_) (bm 24 95215) rfl rfl (any_of HT_.out (by kernel_rfl)) (fun _ _ _ h => h) (Or.inl ⟨by rfl, ?_⟩) ?_ ?_;rotate_left;(intro w';go_simp;with_reducible rfl);rotate_left;(simp only [ps_];rfl)
              refine pure_ (i := 17) (N := some 51) (v := ?_) (a' := ?_) (bm 24 226287) rfl rfl (any_of HT_.out (by kernel_rfl)) (fun _ _ _ h => h) (Or.inl ⟨by rfl, ?_⟩) ?_ ?_;rotate_left;(intro w';go_simp;with_reducible rfl);rotate_left;(simp only [ps_];rfl)
              refine pure_ (i := 18) (N := some 52) (v := ?_) (a' := ?_) (bm 24 488431) rfl rfl (any_of HT_.out (by kernel_rfl)) (fun _ _ _ h => h) (Or.inl ⟨by rfl, ?_⟩) ?_ ?_;rotate_left;(intro w';go_simp;with_reducible rfl);rotate_left;(simp only [ps_];rfl)
              refine take_ (i := 4) (N := some 38) (v := ?_) (a' := ?_) (bm 24 488447) rfl rfl (take_ofW HT_.out HW_.out (by kernel_rfl)) (fun _ _ _ h => h) (Or.inl ⟨by rfl, ?_⟩) hHeld ?_ ?_;rotate_left;(rintro w' ⟨s0, s1, s2, s3, s4, s5⟩;go_simp;with_reducible rfl);rotate_left;(simp only [ps_];rfl)
              refine take_ (i := 10) (N := some 44) (v := ?_) (a' := ?_) (bm 24 489471) rfl rfl (take_ofW HT_.out HW_.out (by kernel_rfl)) (fun _ _ _ h => h) (Or.inl ⟨by rfl, ?_⟩) hHeld ?_ ?_;rotate_left;(rintro w' ⟨s0, s1, s2, s3, s4, s5⟩;go_simp;with_reducible rfl);rotate_left;(simp only [ps_];rfl)
              refine take_ (i := 11) (N := some 45) (v := ?_) (a' := ?_) (bm 24 491519) rfl rfl (take_ofW HT_.out HW_.out (by kernel_rfl)) (fun _ _ _ h => h) (Or.inl ⟨by rfl, ?_⟩) hHeld ?_ ?_;rotate_left;(rintro w' ⟨s0, s1, s2, s3, s4, s5⟩;go_simp;with_reducible rfl);rotate_left;(simp only [ps_];rfl)
              refine take_ (i := 15) (N := some 49) (v := ?_) (a' := ?_) (bm 24 524287) rfl rfl (take_ofW HT_.out HW_.out (by kernel_rfl)) (fun _ _ _ h => h) (Or.inl ⟨by rfl, ?_⟩) hHeld ?_ ?_;rotate_left;(rintro w' ⟨s0, s1, s2, s3, s4, s5⟩;go_simp;with_reducible rfl);rotate_left;(simp only [ps_];rfl)
              refine take_ (i := 19) (N := some 53) (v := ?_) (a' := ?_) (bm 24 1048575) rfl rfl (take_ofW HT_.out HW_.out (by kernel_rfl)) (fun _ _ _ h => h) (Or.inl ⟨by rfl, ?_⟩) hHeld ?_ ?_;rotate_left;(rintro w' ⟨s0, s1, s2, s3, s4, s5⟩;go_simp;with_reducible rfl);rotate_left;(simp only [ps_];rfl)
              refine one_ (i := 20) (N := some 54) (bm 24 2097151) rfl rfl (one_of HT_.out (by kernel_rfl)) (by decide) (fun K hK => ?_)
              refine goes_ Try.func38 (by kernel_rfl) rfl #[.agg #[.int .i64 a0_0, .int .i64 a0_1, .slice A0_2 l0_2.length c0_2], .int .i64 (rd t651 x8_1), .int .i64 (rd t654 x9_2)] (by rfl) rfl rfl (by ((simp only [List.map_toArray, List.map_cons, List.map_nil])); (rfl)) ?_
              with_reducible refine (codewrightref04_Mul.calls k2 a0_0 a0_1 _ _ l0_2 (rd t651 x8_1) (rd t654 x9_2) t666 _ ?side1 ?side2 A26.out).mono ?_
              (case side1 => repeat ((exact (Kd.C_below HR0_2.out HB.out))))
              (case side2 => exact HC0_2.out)
              rintro e w31 ⟨rfl, hb⟩
              have HS3_ := (hb.cell (World.block_lt_of_cell? _ _ (hHeld.2.2.2.1))).trans (hHeld.2.2.2.1)
              have HS4_ := (hb.cell (World.block_lt_of_cell? _ _ (hHeld.2.2.2.2.1))).trans (hHeld.2.2.2.2.1)
              have HS5_ := (hb.cell (World.block_lt_of_cell? _ _ (hHeld.2.2.2.2.2))).trans (hHeld.2.2.2.2.2)
              refine ⟨_, rfl, ?_⟩
              have n0_ := Aside0.mk (Kd.R_below HO_1.out hb)
              have n1_ := Aside0.mk (Kd.R_below HO_2.out hb)
              have n2_ := Aside0.mk (Kd.R_below HO_7.out hb)
              have n3_ := Aside0.mk (blk_below (g := gb650) (o := .cells #[.int .i64 a0_0, .int .i64 a0_1, .slice A0_2 l0_2.length c0_2] 24 (0, 0)) BK650.out hb)
              have n4_ := Aside0.mk (below_step HB.out hb)
              clear HO_1 HO_2 HO_7 BK650 HB
              have HO_1 := n0_
              have HO_2 := n1_
              have HO_7 := n2_
              have BK650 := n3_
              have HB := n4_
              clear n0_ n1_ n2_ n3_ n4_
              ((clear hb))
              refine hK.out _ _ ⟨(blk_cell BK650.out 0).trans rfl, (blk_cell BK650.out 1).trans rfl, (blk_cell BK650.out 2).trans rfl, HS3_, HS4_, HS5_⟩ (fun hHeld => ?_)
              clear hK K
              refine norm_ (a' := ?_) ?_ ?_
              rotate_left
              ·show Act.put _ (some 54) _ = _
               simp only [Act.put, List.setIfInBounds_toArray, List.set_cons_zero, List.set_cons_succ, i64_w, i32_w]
               rfl
              refine one_ (i := 21) (N := some 55) (bm 24 4194303) rfl rfl (one_of HT_.out (by kernel_rfl)) (by decide) (fun K hK => ?_)
              refine goes_ Try.func55 (by kernel_rfl) rfl #[.agg #[.int .i64 a0_0, .int .i64 a0_1, .slice A0_2 l0_2.length c0_2], .int .i64 (rd x7_2 (ji20)), .int .i64 t666] (by rfl) rfl rfl (by ((simp only [List.map_toArray, List.map_cons, List.map_nil])); (rfl)) ?_
              with_reducible refine (codewrightref04_Add.calls k2 a0_0 a0_1 _ _ l0_2 (rd x7_2 (ji20)) t666 t667 _ ?side1 ?side2 A27.out).mono ?_
              (case side1 => repeat ((exact (Kd.C_below HR0_2.out HB.out))))
              (case side2 => exact HC0_2.out)
              rintro e w32 ⟨rfl, hb⟩
              have HS3_ := (hb.cell (World.block_lt_of_cell? _ _ (hHeld.2.2.2.1))).trans (hHeld.2.2.2.1)
              have HS4_ := (hb.cell (World.block_lt_of_cell? _ _ (hHeld.2.2.2.2.1))).trans (hHeld.2.2.2.2.1)
              have HS5_ := (hb.cell (World.block_lt_of_cell? _ _ (hHeld.2.2.2.2.2))).trans (hHeld.2.2.2.2.2)
              refine ⟨_, rfl, ?_⟩
              have n0_ := Aside0.mk (Kd.R_below HO_1.out hb)
              have n1_ := Aside0.mk (Kd.R_below HO_2.out hb)
              have n2_ := Aside0.mk (Kd.R_below HO_7.out hb)
              have n3_ := Aside0.mk (blk_below (g := gb650) (o := .cells #[.int .i64 a0_0, .int .i64 a0_1, .slice A0_2 l0_2.length c0_2] 24 (0, 0)) BK650.out hb)
              have n4_ := Aside0.mk (below_step HB.out hb)
              clear HO_1 HO_2 HO_7 BK650 HB
              have HO_1 := n0_
              have HO_2 := n1_
              have HO_7 := n2_
              have BK650 := n3_
              have HB := n4_
              clear n0_ n1_ n2_ n3_ n4_
              ((clear hb))
              have p28 : 0 ≤ ((ji20) : Int) := of_decide_eq_true (by (with_reducible assumption))
              have q28 : ((ji20) : Int) < ((x7_2.length : Int) : Int) := of_decide_eq_true (by (with_reducible assumption))
              obtain ⟨go28, co28, eo28, gb28, gl28, cl28, HG28⟩ := Kd.R_form HO_7.out (by omega)
              ((cases eo28))
              have GB28 := Aside0.mk gb28
              have GG28 := Aside0.mk HG28
              clear gb28 gl28 HG28
              ((simp only [add_plain] at hx663_0))
              obtain ⟨hx28_0, hf28_0⟩ := Kd.R_celln 0 HO_7.out ((ji20) : Int) p28 q28
              replace p28 := eq_true p28
              replace q28 := eq_true q28
              have HP33 := Kd.R_putn HO_7.out ((ji20) : Int) t667
              rw [← Ny668.out] at HP33
              have HQ33 := Aside0.mk HP33
              clear HP33
              refine hK.out _ _ ⟨(blk_cell BK650.out 0).trans rfl, (blk_cell BK650.out 1).trans rfl, (blk_cell BK650.out 2).trans rfl, HS3_, HS4_, HS5_⟩ (fun hHeld => ?_)
              clear hK K
              refine norm_ (a' := ?_) ?_ ?_
              rotate_left
              ·show Act.put _ (some 55) _ = _
               simp only [Act.put, List.setIfInBounds_toArray, List.set_cons_zero, List.set_cons_succ, i64_w, i32_w]
               rfl
              refine pure_ (i := 22) (N := some 56) (v := ?_) (a' := ?_) (bm 24 8388607) rfl rfl (any_of HT_.out (by kernel_rfl)) (fun _ _ _ h => h) (Or.inl ⟨by rfl, ?_⟩) ?_ ?_;rotate_left;(intro w';go_simp;with_reducible rfl);rotate_left;(simp only [ps_];rfl)
              refine last_ (i := 23) (N := none) (bm 24 16777215) rfl rfl (one_of HT_.out (by kernel_rfl)) (by decide) (fun K hK => ?_)
              refine skip_ (w1 := ?_) (by rfl) rfl ?_ ?_
              rotate_left
              ·go_simp
               rfl
              refine hK.out _ _ ?_
              clear hK K
              refine done_ (done_of HT_.out (by kernel_rfl)) ?_
              (go_wp2)
              go_roundg k2
              case measure => have := HK1.out; have := HK2.out; omega
              case rel => exact ⟨(y668), (wrap64 (x9_2 + 1)), (by rfl), H', ⟨by have := HK1.out; have := HK2.out; omega⟩, ⟨by exact Kd.R_mono (Kd.R_far (p := ⟨go28, ((ji20) : Int).toNat, none⟩) (Kd.R_mono HO_1.out (fun k_ hk => (⟨hk, fun e_ => hk.2 (by rw [e_]; rfl)⟩ : _ ∧ k_ ≠ go28))) (fun _ hk => hk.2) (.int .i64 t667)) (fun _ hk => ⟨hk.1.1, hk.1.2⟩)⟩, ⟨by exact Kd.R_mono (Kd.R_far (p := ⟨go28, ((ji20) : Int).toNat, none⟩) (Kd.R_mono HO_2.out (fun k_ hk => (⟨hk, fun e_ => hk.2 (by rw [e_]; rfl)⟩ : _ ∧ k_ ≠ go28))) (fun _ hk => hk.2) (.int .i64 t667)) (fun _ hk => ⟨hk.1.1, hk.1.2⟩)⟩, ⟨HQ33.out⟩, ⟨by (with_reducible repeat (fail)); refine blk_far ?_ (by have h_ := Kd.R_ne HO_7.out BK650.out (by decide); intro e_; exact h_ (by rw [e_]; rfl)) _; (with_reducible repeat (fail)); exact BK650.out⟩, ⟨by repeat ((with_reducible first | (exact HB.out) | (refine below_set ?_ GB28.out)))⟩⟩
             ·rw [if_neg c25] at H
              exact absurd H (by simp)
            ·rw [if_neg c24] at H
             exact absurd H (by simp)
           ·rw [if_neg c23] at H
            exact absurd H (by simp)
          ·rw [if_neg c22] at H
           exact absurd H (by simp)
         ·rw [if_neg c21] at H
          exact absurd H (by simp)
        ·rw [if_neg c19] at H
         have c19b0 : decide (x9_2 < (t654.length : Int)) = false := decide_eq_false c19
         clear c19
         have H' := Aside0.mk H
         clear H
         go_wp2
         go_roundg k2
         case measure => have := HK1.out; have := HK2.out; omega
         case rel => exact ⟨(x7_2), (wrap64 (x8_1 + 1)), (by rfl), H', ⟨by have := HK1.out; have := HK2.out; omega⟩, ⟨HO_1.out⟩, ⟨HO_2.out⟩, ⟨HO_7.out⟩, ⟨BK650.out⟩, ⟨HB.out⟩⟩
     ·rw [if_neg c18] at H
      have c18b0 : decide (x8_1 < (t651.length : Int)) = false := decide_eq_false c18
      clear c18
      obtain ⟨t660, A340, H⟩ := Option.bind_eq_some_iff.mp H
      replace H : (some t660) = some r := H
      have A34 := Aside0.mk A340
      clear A340
      obtain rfl := Option.some.inj H
      have hcz35_0 : wr.cell? ⟨gb650, 0, none⟩ = some (.int .i64 a0_0) := (blk_cell BK650.out 0).trans rfl
      have hcz35_1 : wr.cell? ⟨gb650, 1, none⟩ = some (.int .i64 a0_1) := (blk_cell BK650.out 1).trans rfl
      have hcz35_2 : wr.cell? ⟨gb650, 2, none⟩ = some (.slice A0_2 l0_2.length c0_2) := (blk_cell BK650.out 2).trans rfl
      have hfz35_0 := blk_frozen BK650.out 0
      have hfz35_1 := blk_frozen BK650.out 1
      have hfz35_2 := blk_frozen BK650.out 2
      obtain ⟨Ao36, co36, eo36⟩ := Kd.R_slice HO_7.out
      subst eo36
      go_wp2_with (((with_reducible refine gate_callee (f := 23) rfl ?_); refine goesL_ (some 59) rfl rfl Try.func23 (by kernel_rfl) rfl #[.agg #[.int .i64 a0_0, .int .i64 a0_1, .slice A0_2 l0_2.length c0_2], .slice Ao36 x7_1.length co36] rfl (by ((simp only [List.map_toArray, List.map_cons, List.map_nil])); (rfl)) ?_; (with_reducible refine (codewrightref05_Canon.calls k1 a0_0 a0_1 _ _ l0_2 _ _ x7_1 t660 _ ?side1 ?side2 ?side3 ?side4 A34.out).mono ?_); (case side1 => repeat ((exact (Kd.C_below HR0_2.out HB.out)))); (case side2 => exact HC0_2.out); (case side3 => repeat ((exact (Kd.R_reads' HO_7.out).2.2))); (case side4 => exact (Kd.R_reads' HO_7.out).2.1); rintro e w37 ⟨v661, rfl, ho0, hb⟩; refine ⟨_, rfl, ?_⟩; have n0_ := Aside0.mk (Kd.R_elder' HO_1.out (Kd.R_base ho0) hb); have n1_ := Aside0.mk (Kd.R_elder' HO_2.out (Kd.R_base ho0) hb); have n2_ := Aside0.mk (Kd.R_elder' HO_7.out (Kd.R_base ho0) hb); have n3_ := Aside0.mk (Kd.R_lower (Kd.R_new' (Kd.R_new' (Kd.R_new' ho0 (Kd.R_lt HO_1.out)) (Kd.R_lt HO_2.out)) (Kd.R_lt HO_7.out)) (below_size HB.out)); have n4_ := Aside0.mk (blk_below (g := gb650) (o := .cells #[.int .i64 a0_0, .int .i64 a0_1, .slice A0_2 l0_2.length c0_2] 24 (0, 0)) BK650.out hb); have n5_ := Aside0.mk (below_step HB.out hb); clear HO_1; clear HO_2; clear HO_7; clear BK650; clear HB; have HO_1 := n0_; have HO_2 := n1_; have HO_7 := n2_; have HO662 := n3_; have BK650 := n4_; have HB := n5_; clear n0_ n1_ n2_ n3_ n4_ n5_; ((clear hb)); (skip); (skip); (skip); ((clear ho0))))
      go_ret
      exact ⟨_, by rfl, by exact Kd.R_mono HO662.out (fun _ hk => trivial), by exact HB.out⟩
  ·rw [if_neg c8] at H
   exact absurd H (by simp)
 ·rw [if_neg c7] at H
  exact absurd H (by simp)
end Go.Proofs.Ytkdakjlopheefaa.PA
end
section
namespace Go.Proofs.Ytkdakjlopheefaa.PA
open Go.RowKit Go.Proofs.YtkdakjlopheefaaW.PrintWords Go.Proofs.YtkdakjlopheefaaW.PrintLast Go.Proofs.YtkdakjlopheefaaW.PrintMore
attribute [local go_sem] max2_int min2_int max_two min_two max_three min_three max_four min_four
set_option linter.unusedVariables false
set_option linter.unusedSimpArgs false
end Go.Proofs.Ytkdakjlopheefaa.PA
end
section
namespace Go.Proofs.Ytkdakjlopheefaa.PA
open Go.RowKit Go.Proofs.YtkdakjlopheefaaW.PrintWords Go.Proofs.YtkdakjlopheefaaW.PrintLast Go.Proofs.YtkdakjlopheefaaW.PrintMore
attribute [local go_sem] max2_int min2_int max_two min_two max_three min_three max_four min_four
set_option linter.unusedVariables false
set_option linter.unusedSimpArgs false
def codewrightref04_Neg.l0 : Nat → List Int → Int → Int → Int → List Int → Option (Int)
 | 0, _, _, _, _, _ => none
 | k + 1, x5, x6, x687000, x687001, x687002 => if x6 < (x5.length : Int) then (if 0 ≤ x6 then (if x687000 = 0 then (none) else (codewrightref04_Neg.l0 k (x5.set (x6 : Int).toNat (Int.tmod (wrap64 (x687000 - (rd x5 x6))) x687000)) (wrap64 (x6 + 1)) x687000 x687001 x687002)) else (none)) else ((codewrightref04_Value.f k x687000 x687001 x687002 x5).bind fun t692 => (some t692))
def codewrightref04_Neg.f (k : Nat) (a0_0 : Int) (a0_1 : Int) (l0_2 : List Int) (a1 : Int) : Option (Int) := (codewrightref04_Digits.f k a0_0 a0_1 l0_2 a1).bind fun t687 => (codewrightref04_Neg.l0 k t687 0 a0_0 a0_1 l0_2)
def codewrightref04_Neg.T5 : Bool × List (List Nat × List Nat) := (true, [([], []), ([], []), ([], []), ([2], [2]), ([], []), ([], []), ([4, 5], [4, 5]), ([6], [6]), ([3, 7], [3, 7]), ([], []), ([9], [9]), ([8, 10], [8, 10]), ([0, 1, 0, 1, 2, 3, 4, 5, 6, 7, 8, 9, 10, 11], [0, 1]), ([12, 11, 0, 1, 2, 3, 4, 5, 6, 7, 8, 9, 10, 11], [11, 12])])
def codewrightref04_Neg.B5 : List Nat := [0, 0, 0, 4, 0, 0, 48, 112, 252, 0, 512, 2044, 4095, 8191]
theorem codewrightref04_Neg.tab5 : rtab .any (opsOf Try.f59 5) = codewrightref04_Neg.T5 := by kernel_rfl
theorem codewrightref04_Neg.bits5 : waitsOk codewrightref04_Neg.T5.2 codewrightref04_Neg.B5 = true := by kernel_rfl
set_option maxHeartbeats 8000000 in
set_option maxRecDepth 100000 in
theorem codewrightref04_Neg.calls (k : Nat) (a0_0 : Int) (a0_1 : Int) (A0_2 : Option Addr) (c0_2 : Nat) (l0_2 : List Int) (a1 : Int) (r : Int) (w : World) (hr0_2 : Kd.C (Kd.int .i64) w A0_2 l0_2.length l0_2) (hc0_2 : l0_2.length ≤ c0_2) (h : codewrightref04_Neg.f k a0_0 a0_1 l0_2 a1 = some r) :
  Calls Try.prog 59 #[.agg #[.int .i64 a0_0, .int .i64 a0_1, .slice A0_2 l0_2.length c0_2], .int .i64 a1] w fun e w' => e = .returned (.int .i64 r) ∧ Below w.heap.size w w' := by
 have hu24 := Try.underlying24
 have HR0_2 := Aside0.mk hr0_2
 have HC0_2 := Aside0.mk hc0_2
 clear hr0_2 hc0_2
 have HB := Aside0.mk (Below.refl w.heap.size w)
 have H : ((codewrightref04_Digits.f k a0_0 a0_1 l0_2 a1).bind fun t687 => (codewrightref04_Neg.l0 k t687 0 a0_0 a0_1 l0_2)) = some r := h
 clear h
 obtain ⟨t687, A30, H⟩ := Option.bind_eq_some_iff.mp H
 replace H : (codewrightref04_Neg.l0 k t687 0 a0_0 a0_1 l0_2) = some r := H
 have A3 := Aside0.mk A30
 clear A30
 have H' := Aside0.mk H
 clear H
 go_enter Try.func59, Try.ntmps59
 go_wp2_with (first | ((with_reducible refine gate_dst (N := 2) rfl ?_); refine box_event ?hg (N := 2) ?hd (cs := #[.int .i64 a0_0, .int .i64 a0_1, .slice A0_2 l0_2.length c0_2]) (t := 24) ?hr ?_; (case hd => rfl); (case hg => rfl); (case hr => (go_simp; done)); intro gb686 hg w4 hbox hb; have n0_ := Aside0.mk (below_step HB.out hb); have n1_ := Aside0.mk (hbox); have n2_ := Aside0.mk ((by rw [hg]; exact (below_size HB.out) : w.heap.size ≤ gb686)); have n3_ := Aside0.mk ((by rw [hg]; exact (below_size HB.out) : w.heap.size ≤ gb686)); clear HB; have HB := n0_; have BK686 := n1_; have GW686 := n2_; have GE686 := n3_; clear n0_ n1_ n2_ n3_; clear hb hbox hg; have hcz5_0 : w4.cell? ⟨gb686, 0, none⟩ = some (.int .i64 a0_0) := (blk_cell BK686.out 0).trans rfl; have hcz5_1 : w4.cell? ⟨gb686, 1, none⟩ = some (.int .i64 a0_1) := (blk_cell BK686.out 1).trans rfl; have hcz5_2 : w4.cell? ⟨gb686, 2, none⟩ = some (.slice A0_2 l0_2.length c0_2) := (blk_cell BK686.out 2).trans rfl; have hfz5_0 := blk_frozen BK686.out 0; have hfz5_1 := blk_frozen BK686.out 1; have hfz5_2 := blk_frozen BK686.out 2) | ((with_reducible refine gate_callee (f := 69) rfl ?_); refine goesL_ (some 9) rfl rfl Try.func69 (by kernel_rfl) rfl #[.agg #[.int .i64 a0_0, .int .i64 a0_1, .slice A0_2 l0_2.length c0_2], .int .i64 a1] rfl (by ((simp only [List.map_toArray, List.map_cons, List.map_nil])); (rfl)) ?_; (with_reducible refine (codewrightref04_Digits.calls k a0_0 a0_1 _ _ l0_2 a1 t687 _ ?side1 ?side2 A3.out).mono ?_); (case side1 => repeat ((exact (Kd.C_below HR0_2.out HB.out)))); (case side2 => exact HC0_2.out); rintro e w6 ⟨v688, rfl, ho0, hb⟩; refine ⟨_, rfl, ?_⟩; have n0_ := Aside0.mk (Kd.R_lower ho0 (below_size HB.out)); have n1_ := Aside0.mk (blk_below (g := gb686) (o := .cells #[.int .i64 a0_0, .int .i64 a0_1, .slice A0_2 l0_2.length c0_2] 24 (0, 0)) BK686.out hb); have n2_ := Aside0.mk (below_step HB.out hb); clear BK686; clear HB; have HO689 := n0_; have BK686 := n1_; have HB := n2_; clear n0_ n1_ n2_; ((clear hb)); (skip); (skip); (skip); ((clear ho0))))
 go_loopg [6] k (fun kq v6 w' => ∃ (x5_1 : List Int) (x6_1 : Int), v6 = .int .i64 x6_1 ∧ Aside0 (codewrightref04_Neg.l0 kq x5_1 x6_1 a0_0 a0_1 l0_2 = some r) ∧ Aside0 (kq ≤ k) ∧ Aside0 (Kd.R (Kd.int .i64) 3 w' w.heap.size (fun _ => True) v688 x5_1) ∧ Aside0 (w'.heap[gb686]? = some (.cells #[.int .i64 a0_0, .int .i64 a0_1, (.slice A0_2 l0_2.length c0_2)] 24 (0, 0))) ∧ Aside0 (Below w.heap.size w w'))
 case atStart => exact ⟨(t687), (0), (by rfl), H', ⟨Nat.le_refl _⟩, ⟨HO689.out⟩, ⟨BK686.out⟩, ⟨HB.out⟩⟩
 case round =>
  clear H' hcz5_0 hcz5_1 hcz5_2 hfz5_0 hfz5_1 hfz5_2
  obtain ⟨x5_1, x6_1, rfl, HA, HK1, HO_5, BK686, HB⟩ := hrel
  cases gk with
  | zero => exact absurd HA.out (by simp [codewrightref04_Neg.l0])
  | succ k1 =>
   have H := HA.out
   clear HA
   simp only [codewrightref04_Neg.l0] at H
   by_cases c7 : x6_1 < (x5_1.length : Int)
   ·rw [if_pos c7] at H
    have c7b0 : decide (x6_1 < (x5_1.length : Int)) = true := decide_eq_true c7
    clear c7
    by_cases c8 : 0 ≤ x6_1
    ·rw [if_pos c8] at H
     have c8b0 : decide (0 ≤ x6_1) = true := decide_eq_true c8
     clear c8
     by_cases c9 : a0_0 = 0
     ·rw [if_pos c9] at H
      exact absurd H (by simp)
     ·rw [if_neg c9] at H
      have c9b0 : (a0_0 == 0) = false := beq_eq_false_iff_ne.mpr c9
      have c9b1 : (a0_0 != 0) = true := bne_iff_ne.mpr c9
      obtain ⟨y691, hy691⟩ : ∃ y_ : List Int, y_ = (x5_1.set (x6_1 : Int).toNat (Int.tmod (wrap64 (a0_0 - (rd x5_1 x6_1))) a0_0)) := ⟨_, rfl⟩
      replace H : (codewrightref04_Neg.l0 k1 y691 (wrap64 (x6_1 + 1)) a0_0 a0_1 l0_2) = some r := by (rw [hy691]; with_reducible exact H)
      have Ny691 := Aside0.mk hy691
      clear hy691
      have H' := Aside0.mk H
      clear H
      obtain ⟨Ao11, co11, eo11⟩ := Kd.R_slice HO_5.out
      subst eo11
      (go_wp2)
      have n0_ := Aside0.mk (Kd.R_drew HO_5.out)
      have n1_ := Aside0.mk (blk_drew BK686.out)
      have n2_ := Aside0.mk (below_drew1 HB.out)
      clear HO_5 BK686 HB
      have HO_5 := n0_
      have BK686 := n1_
      have HB := n2_
      clear n0_ n1_ n2_
      have p690 : 0 ≤ (x6_1 : Int) := of_decide_eq_true (by (with_reducible assumption))
      have q690 : x6_1 < (x5_1.length : Int) := of_decide_eq_true (by (with_reducible assumption))
      obtain ⟨ad690, e690, hx690_0⟩ := Kd.at_int (Kd.R_reads' HO_5.out).2.2 x6_1 p690 q690
      cases e690
      replace p690 := eq_true p690
      replace q690 := eq_true q690
      have p10 : 0 ≤ (x6_1 : Int) := of_decide_eq_true (by (with_reducible assumption))
      have q10 : (x6_1 : Int) < ((x5_1.length : Int) : Int) := of_decide_eq_true (by (with_reducible assumption))
      obtain ⟨go10, co10, eo10, gb10, gl10, cl10, HG10⟩ := Kd.R_form HO_5.out (by omega)
      ((cases eo10))
      have GB10 := Aside0.mk gb10
      have GG10 := Aside0.mk HG10
      clear gb10 gl10 HG10
      ((simp only [add_plain] at hx690_0))
      obtain ⟨hx10_0, hf10_0⟩ := Kd.R_celln 0 HO_5.out (x6_1 : Int) p10 q10
      replace p10 := eq_true p10
      replace q10 := eq_true q10
      have HP13 := Kd.R_putn HO_5.out (x6_1 : Int) (Int.tmod (wrap64 (a0_0 - (rd x5_1 x6_1))) a0_0)
      rw [← Ny691.out] at HP13
      have HQ13 := Aside0.mk HP13
      clear HP13
      refine start_ (n := 14) (S := fun w' => w'.cell? ⟨gb686, 0, none⟩ = some (.int .i64 a0_0) ∧ w'.cell? ⟨gb686, 1, none⟩ = some (.int .i64 a0_1) ∧ w'.cell? ⟨gb686, 2, none⟩ = some (.slice A0_2 l0_2.length c0_2) ∧ w'.cell? ⟨go10, (x6_1).toNat, none⟩ = some (.int .i64 (rd x5_1 x6_1))) (ds := [13]) (bm 14 0) (by kernel_rfl) rfl rfl ⟨(blk_cell BK686.out 0).trans rfl, (blk_cell BK686.out 1).trans rfl, (blk_cell BK686.out 2).trans rfl, hx690_0⟩ (fun hHeld => ?_); refine with_tabW codewrightref04_Neg.tab5 codewrightref04_Neg.bits5 (fun HT_ HW_ => ?_)
      generalize wr.drew = w12 at HO_5 BK686 HB GG10 HQ13 hf10_0 hx10_0 hx690_0 hHeld ⊢
      refine pure_ (i := 0) (N := some 16) (v := ?_) (a' := ?_) (bm 14 1) rfl rfl (any_of HT_.out (by kernel_rfl)) (fun _ _ _ h => h) (Or.inl ⟨by rfl, ?_⟩) ?_ ?_;rotate_left;(intro w';go_simp;with_reducible rfl);rotate_left;(simp only [ps_];rfl)
      refine pure_ (i := 1) (N := some 17) (v := ?_) (a' := ?_) (bm 14 3) rfl rfl (any_of HT_.out (by kernel_rfl)) (fun _ _ _ h => h) (Or.inl ⟨by rfl, ?_⟩) ?_ ?_;rotate_left;(intro w';go_simp;with_reducible rfl);rotate_left;(simp only [ps_];rfl)
      refine pure_ (i := 2) (N := some 18) (v := ?_) (a' := ?_) (bm 14 7) rfl rfl (any_of HT_.out (by kernel_rfl)) (fun _ _ _ h => h) (Or.inl ⟨by rfl, ?_⟩) ?_ ?_;rotate_left;(intro w';go_simp;with_reducible rfl);rotate_left;(simp only [ps_];rfl)
      refine pure_ (i := 4) (N := some 20) (v := ?_) (a' := ?_) (bm 14 23) rfl rfl (any_of HT_.out (by kernel_rfl)) (fun _ _ _ h => h) (Or.inl ⟨by rfl, ?_⟩) ?_ ?_;rotate_left;(intro w';go_simp;with_reducible rfl);rotate_left;(simp only [ps_];rfl)
      refine pure_ (i := 5) (N := some 21) (v := ?_) (a' := ?_) (bm 14 55) rfl rfl (any_of HT_.out (by kernel_rfl)) (fun _ _ _ h => h) (Or.inl ⟨by rfl, ?_⟩) ?_ ?_;rotate_left;(intro w';go_simp;with_reducible rfl);rotate_left;(simp only [ps_];rfl)
      refine pure_ (i := 6) (N := some 22) (v := ?_) (a' := ?_) (bm 14 119) rfl rfl (any_of HT_.out (by kernel_rfl)) (fun _ _ _ h => h) (Or.inl ⟨by rfl, ?_⟩) ?_ ?_;rotate_left;(intro w';go_simp;with_reducible rfl);rotate_left;(simp only [ps_];rfl)
      refine pure_ (i := 9) (N := some 25) (v := ?_) (a' := ?_) (bm 14 631) rfl rfl (any_of HT_.out (by kernel_rfl)) (fun _ _ _ h => h) (Or.inl ⟨by rfl, ?_⟩) ?_ ?_;rotate_left;(intro w';go_simp;with_reducible rfl);rotate_left;(simp only [ps_];rfl)
      refine take_ (i := 3) (N := some 19) (v := ?_) (a' := ?_) (bm 14 639) rfl rfl (take_ofW HT_.out HW_.out (by kernel_rfl)) (fun _ _ _ h => h) (Or.inl ⟨by rfl, ?_⟩) hHeld ?_ ?_;rotate_left;(rintro w' ⟨s0, s1, s2, s3⟩;go_simp;with_reducible rfl);rotate_left;(simp only [ps_];rfl)
      refine take_ (i := 7) (N := some 23) (v := ?_) (a' := ?_) (bm 14 767) rfl rfl (take_ofW HT_.out HW_.out (by kernel_rfl)) (fun _ _ _ h => h) (Or.inl ⟨by rfl, ?_⟩) hHeld ?_ ?_;rotate_left;(rintro w' ⟨s0, s1, s2, s3⟩;go_simp;with_reducible rfl);rotate_left;(simp only [ps_];rfl)
      refine pure_ (i := 8) (N := some 24) (v := ?_) (a' := ?_) (bm 14 1023) rfl rfl (any_of HT_.out (by kernel_rfl)) (fun _ _ _ h => h) (Or.inl ⟨by rfl, ?_⟩) ?_ ?_;rotate_left;(intro w';go_simp;with_reducible rfl);rotate_left;(simp only [ps_];rfl)
      refine take_ (i := 10) (N := some 26) (v := ?_) (a' := ?_) (bm 14 2047) rfl rfl (take_ofW HT_.out HW_.out (by kernel_rfl)) (fun _ _ _ h => h) (Or.inl ⟨by rfl, ?_⟩) hHeld ?_ ?_;rotate_left;(rintro w' ⟨s0, s1, s2, s3⟩;go_simp;with_reducible rfl);rotate_left;(simp only [ps_];rfl)
      refine pure_ (i := 11) (N := some 27) (v := ?_) (a' := ?_) (bm 14 4095) rfl rfl (any_of HT_.out (by kernel_rfl)) (fun _ _ _ h => h) (Or.inl ⟨by rfl, ?_⟩) ?_ ?_;rotate_left;(intro w';go_simp;with_reducible rfl);rotate_left;(simp only [ps_];rfl)
      refine pure_ (i := 12) (N := some 28) (v := ?_) (a' := ?_) (bm 14 8191) rfl rfl (any_of HT_.out (by kernel_rfl)) (fun _ _ _ h => h) (Or.inl ⟨by rfl, ?_⟩) ?_ ?_;rotate_left;(intro w';go_simp;with_reducible rfl);rotate_left;(simp only [ps_];rfl)
      refine last_ (i := 13) (N := none) (bm 14 16383) rfl rfl (one_of HT_.out (by kernel_rfl)) (by decide) (fun K hK => ?_)
      refine skip_ (w1 := ?_) (by rfl) rfl ?_ ?_
      rotate_left
      ·go_simp
       rfl
      refine hK.out _ _ ?_
      clear hK K
      refine done_ (done_of HT_.out (by kernel_rfl)) ?_
      (go_wp2)
      go_roundg k1
      case measure => have := HK1.out; omega
      case rel => exact ⟨(y691), (wrap64 (x6_1 + 1)), (by rfl), H', ⟨by have := HK1.out; omega⟩, ⟨HQ13.out⟩, ⟨by (with_reducible repeat (fail)); refine blk_far ?_ (by have h_ := Kd.R_ne HO_5.out BK686.out (by decide); intro e_; exact h_ (by rw [e_]; rfl)) _; (with_reducible repeat (fail)); exact BK686.out⟩, ⟨by repeat ((with_reducible first | (exact HB.out) | (refine below_set ?_ GB10.out)))⟩⟩
    ·rw [if_neg c8] at H
     exact absurd H (by simp)
   ·rw [if_neg c7] at H
    have c7b0 : decide (x6_1 < (x5_1.length : Int)) = false := decide_eq_false c7
    clear c7
    obtain ⟨t692, A140, H⟩ := Option.bind_eq_some_iff.mp H
    replace H : (some t692) = some r := H
    have A14 := Aside0.mk A140
    clear A140
    obtain rfl := Option.some.inj H
    obtain ⟨Ao15, co15, eo15⟩ := Kd.R_slice HO_5.out
    subst eo15
    have hcz16_0 : wr.cell? ⟨gb686, 0, none⟩ = some (.int .i64 a0_0) := (blk_cell BK686.out 0).trans rfl
    have hcz16_1 : wr.cell? ⟨gb686, 1, none⟩ = some (.int .i64 a0_1) := (blk_cell BK686.out 1).trans rfl
    have hcz16_2 : wr.cell? ⟨gb686, 2, none⟩ = some (.slice A0_2 l0_2.length c0_2) := (blk_cell BK686.out 2).trans rfl
    have hfz16_0 := blk_frozen BK686.out 0
    have hfz16_1 := blk_frozen BK686.out 1
    have hfz16_2 := blk_frozen BK686.out 2
    go_wp2_with (((with_reducible refine gate_callee (f := 70) rfl ?_); refine goesL_ (some 31) rfl rfl Try.func70 (by kernel_rfl) rfl #[.agg #[.int .i64 a0_0, .int .i64 a0_1, .slice A0_2 l0_2.length c0_2], .slice Ao15 x5_1.length co15] rfl (by ((simp only [List.map_toArray, List.map_cons, List.map_nil])); (rfl)) ?_; (with_reducible refine (codewrightref04_Value.calls k1 a0_0 a0_1 _ _ l0_2 _ _ x5_1 t692 _ ?side1 ?side2 ?side3 ?side4 A14.out).mono ?_); (case side1 => repeat ((exact (Kd.C_below HR0_2.out HB.out)))); (case side2 => exact HC0_2.out); (case side3 => repeat ((exact (Kd.R_reads' HO_5.out).2.2))); (case side4 => exact (Kd.R_reads' HO_5.out).2.1); rintro e w17 ⟨rfl, hb⟩; refine ⟨_, rfl, ?_⟩; have n0_ := Aside0.mk (Kd.R_below HO_5.out hb); have n1_ := Aside0.mk (blk_below (g := gb686) (o := .cells #[.int .i64 a0_0, .int .i64 a0_1, .slice A0_2 l0_2.length c0_2] 24 (0, 0)) BK686.out hb); have n2_ := Aside0.mk (below_step HB.out hb); clear HO_5; clear BK686; clear HB; have HO_5 := n0_; have BK686 := n1_; have HB := n2_; clear n0_ n1_ n2_; ((clear hb)); (skip); (skip); (skip)))
    go_ret
    exact ⟨by rfl, by exact HB.out⟩
end Go.Proofs.Ytkdakjlopheefaa.PA
end
section
namespace Go.Proofs.Ytkdakjlopheefaa.PA
open Go.RowKit Go.Proofs.YtkdakjlopheefaaW.PrintWords Go.Proofs.YtkdakjlopheefaaW.PrintLast Go.Proofs.YtkdakjlopheefaaW.PrintMore
attribute [local go_sem] max2_int min2_int max_two min_two max_three min_three max_four min_four
set_option linter.unusedVariables false
set_option linter.unusedSimpArgs false
end Go.Proofs.Ytkdakjlopheefaa.PA
end
section
namespace Go.Proofs.Ytkdakjlopheefaa.PA
open Go.RowKit Go.Proofs.YtkdakjlopheefaaW.PrintWords Go.Proofs.YtkdakjlopheefaaW.PrintLast Go.Proofs.YtkdakjlopheefaaW.PrintMore
attribute [local go_sem] max2_int min2_int max_two min_two max_three min_three max_four min_four
set_option linter.unusedVariables false
set_option linter.unusedSimpArgs false
end Go.Proofs.Ytkdakjlopheefaa.PA
end
section
namespace Go.Proofs.Ytkdakjlopheefaa.PA
open Go.RowKit Go.Proofs.YtkdakjlopheefaaW.PrintWords Go.Proofs.YtkdakjlopheefaaW.PrintLast Go.Proofs.YtkdakjlopheefaaW.PrintMore
attribute [local go_sem] max2_int min2_int max_two min_two max_three min_three max_four min_four
set_option linter.unusedVariables false
set_option linter.unusedSimpArgs false
end Go.Proofs.Ytkdakjlopheefaa.PA
end
section
namespace Go.Proofs.Ytkdakjlopheefaa.PA
open Go.RowKit Go.Proofs.YtkdakjlopheefaaW.PrintWords Go.Proofs.YtkdakjlopheefaaW.PrintLast Go.Proofs.YtkdakjlopheefaaW.PrintMore
attribute [local go_sem] max2_int min2_int max_two min_two max_three min_three max_four min_four
set_option linter.unusedVariables false
set_option linter.unusedSimpArgs false
end Go.Proofs.Ytkdakjlopheefaa.PA
end
section
namespace Go.Proofs.Ytkdakjlopheefaa.PA
open Go.RowKit Go.Proofs.YtkdakjlopheefaaW.PrintWords Go.Proofs.YtkdakjlopheefaaW.PrintLast Go.Proofs.YtkdakjlopheefaaW.PrintMore
attribute [local go_sem] max2_int min2_int max_two min_two max_three min_three max_four min_four
set_option linter.unusedVariables false
set_option linter.unusedSimpArgs false
def codewrightref38_Locator.l0 : Nat → List Int → List Int → Int → Int → Int → List Int → Option (List Int)
 | 0, _, _, _, _, _, _ => none
 | k + 1, x1, x5, x6, x787000, x787001, x787002 => if x6 < (x1.length : Int) then (if 0 ≤ x6 then ((codewrightref04_Neg.f k x787000 x787001 x787002 (rd x1 x6)).bind fun t791 => ((codewrightref05_Mul.f k x787000 x787001 x787002 x5 (([1, t791] : List Int))).bind fun t795 => (codewrightref38_Locator.l0 k x1 t795 (wrap64 (x6 + 1)) x787000 x787001 x787002))) else (none)) else (some x5)
def codewrightref38_Locator.f (k : Nat) (a0_0 : Int) (a0_1 : Int) (l0_2 : List Int) (l1 : List Int) : Option (List Int) := codewrightref38_Locator.l0 k l1 (([1] : List Int)) 0 a0_0 a0_1 l0_2
def codewrightref38_Locator.T5 : Bool × List (List Nat × List Nat) := (true, [([], []), ([], []), ([], []), ([], []), ([], []), ([3, 4], [3, 4]), ([5], [5]), ([2, 6], [2, 6]), ([7], [7]), ([0, 1, 8, 7], [0, 1, 8]), ([9, 9, 0, 1, 2, 3, 4, 5, 6, 7, 8, 9], [1, 9])])
def codewrightref38_Locator.B5 : List Nat := [0, 0, 0, 0, 0, 24, 56, 124, 252, 511, 1023]
theorem codewrightref38_Locator.tab5 : rtab .any (opsOf Try.f30 5) = codewrightref38_Locator.T5 := by kernel_rfl
theorem codewrightref38_Locator.bits5 : waitsOk codewrightref38_Locator.T5.2 codewrightref38_Locator.B5 = true := by kernel_rfl
set_option maxHeartbeats 8000000 in
set_option maxRecDepth 100000 in
theorem codewrightref38_Locator.calls (k : Nat) (a0_0 : Int) (a0_1 : Int) (A0_2 : Option Addr) (c0_2 : Nat) (l0_2 : List Int) (A1 : Option Addr) (c1 : Nat) (l1 : List Int) (r : List Int) (w : World) (hr0_2 : Kd.C (Kd.int .i64) w A0_2 l0_2.length l0_2) (hc0_2 : l0_2.length ≤ c0_2) (hr1 : Kd.C (Kd.int .i64) w A1 l1.length l1) (hc1 : l1.length ≤ c1) (h : codewrightref38_Locator.f k a0_0 a0_1 l0_2 l1 = some r) :
  Calls Try.prog 30 #[.agg #[.int .i64 a0_0, .int .i64 a0_1, .slice A0_2 l0_2.length c0_2], .slice A1 l1.length c1] w fun e w' => ∃ v0_ : Value, e = .returned (v0_) ∧ Kd.R (Kd.int .i64) 3 w' w.heap.size (fun _ => True) v0_ r ∧ Below w.heap.size w w' := by
 have hu24 := Try.underlying24
 have HR0_2 := Aside0.mk hr0_2
 have HC0_2 := Aside0.mk hc0_2
 clear hr0_2 hc0_2
 have HR1 := Aside0.mk hr1
 have HC1 := Aside0.mk hc1
 clear hr1 hc1
 have HB := Aside0.mk (Below.refl w.heap.size w)
 have H : (codewrightref38_Locator.l0 k l1 (([1] : List Int)) 0 a0_0 a0_1 l0_2) = some r := h
 clear h
 obtain ⟨y787, hy787⟩ : ∃ y_ : List Int, y_ = (([1] : List Int)) := ⟨_, rfl⟩
 replace H : (codewrightref38_Locator.l0 k l1 y787 0 a0_0 a0_1 l0_2) = some r := by (rw [hy787]; with_reducible exact H)
 have Ny787 := Aside0.mk hy787
 clear hy787
 have H' := Aside0.mk H
 clear H
 go_enter Try.func30, Try.ntmps30
 go_wp2_with (first | ((with_reducible refine gate_dst (N := 2) rfl ?_); refine box_event ?hg (N := 2) ?hd (cs := #[.int .i64 a0_0, .int .i64 a0_1, .slice A0_2 l0_2.length c0_2]) (t := 24) ?hr ?_; (case hd => rfl); (case hg => rfl); (case hr => (go_simp; done)); intro gb786 hg w3 hbox hb; have n0_ := Aside0.mk (below_step HB.out hb); have n1_ := Aside0.mk (hbox); have n2_ := Aside0.mk ((by rw [hg]; exact (below_size HB.out) : w.heap.size ≤ gb786)); have n3_ := Aside0.mk ((by rw [hg]; exact (below_size HB.out) : w.heap.size ≤ gb786)); clear HB; have HB := n0_; have BK786 := n1_; have GW786 := n2_; have GE786 := n3_; clear n0_ n1_ n2_ n3_; clear hb hbox hg) | ((with_reducible refine gate_dst (N := 7) rfl ?_); refine Kd.R_lit (Kd.int .i64) _ 3 ?hg (N := 7) ?hd (xs := ([1] : List Int)) (inner := [.int .i64 1]) (ok := fun _ => True) (okp := fun _ => True) ?hr ?hp (fun _ hk => hk) trivial (Below.refl _ _) (Nat.le_refl _) (by simp) ?_; (case hd => rfl); (case hg => rfl); (case hr => (go_simp; done)); (case hp => exact (Reps.one (show Kd.M (Kd.int .i64) _ _ _ 1 [.int .i64 1] from rfl) (Reps.none _ _))); intro v788 w4 ho5 hb hg_ hnew_; clear hg_ hnew_; ((rw [← Ny787.out] at ho5)); have n0_ := Aside0.mk (Kd.R_lower ho5 (below_size HB.out)); have n1_ := Aside0.mk (blk_below (g := gb786) (o := .cells #[.int .i64 a0_0, .int .i64 a0_1, .slice A0_2 l0_2.length c0_2] 24 (0, 0)) BK786.out hb); have n2_ := Aside0.mk (below_step HB.out hb); clear BK786; clear HB; have HO789 := n0_; have BK786 := n1_; have HB := n2_; clear n0_ n1_ n2_; clear hb ho5))
 go_loopg [5, 6] k (fun kq v5 v6 w' => ∃ (x5_1 : List Int) (x6_1 : Int), v6 = .int .i64 x6_1 ∧ Aside0 (codewrightref38_Locator.l0 kq l1 x5_1 x6_1 a0_0 a0_1 l0_2 = some r) ∧ Aside0 (kq ≤ k) ∧ Aside0 (Kd.R (Kd.int .i64) 3 w' w.heap.size (fun _ => True) v5 x5_1) ∧ Aside0 (w'.heap[gb786]? = some (.cells #[.int .i64 a0_0, .int .i64 a0_1, (.slice A0_2 l0_2.length c0_2)] 24 (0, 0))) ∧ Aside0 (Below w.heap.size w w'))
 case atStart => exact ⟨(y787), (0), (by rfl), H', ⟨Nat.le_refl _⟩, ⟨HO789.out⟩, ⟨BK786.out⟩, ⟨HB.out⟩⟩
 case round =>
  clear H'
  obtain ⟨x5_1, x6_1, rfl, HA, HK1, HO_5, BK786, HB⟩ := hrel
  cases gk with
  | zero => exact absurd HA.out (by simp [codewrightref38_Locator.l0])
  | succ k1 =>
   have H := HA.out
   clear HA
   simp only [codewrightref38_Locator.l0] at H
   by_cases c6 : x6_1 < (l1.length : Int)
   ·rw [if_pos c6] at H
    have c6b0 : decide (x6_1 < (l1.length : Int)) = true := decide_eq_true c6
    clear c6
    by_cases c7 : 0 ≤ x6_1
    ·rw [if_pos c7] at H
     have c7b0 : decide (0 ≤ x6_1) = true := decide_eq_true c7
     clear c7
     obtain ⟨t791, A80, H⟩ := Option.bind_eq_some_iff.mp H
     replace H : ((codewrightref05_Mul.f k1 a0_0 a0_1 l0_2 x5_1 (([1, t791] : List Int))).bind fun t795 => (codewrightref38_Locator.l0 k1 l1 t795 (wrap64 (x6_1 + 1)) a0_0 a0_1 l0_2)) = some r := H
     have A8 := Aside0.mk A80
     clear A80
     obtain ⟨y792, hy792⟩ : ∃ y_ : List Int, y_ = (([1, t791] : List Int)) := ⟨_, rfl⟩
     replace H : ((codewrightref05_Mul.f k1 a0_0 a0_1 l0_2 x5_1 y792).bind fun t795 => (codewrightref38_Locator.l0 k1 l1 t795 (wrap64 (x6_1 + 1)) a0_0 a0_1 l0_2)) = some r := by (rw [hy792]; with_reducible exact H)
     have Ny792 := Aside0.mk hy792
     clear hy792
     obtain ⟨t795, A90, H⟩ := Option.bind_eq_some_iff.mp H
     replace H : (codewrightref38_Locator.l0 k1 l1 t795 (wrap64 (x6_1 + 1)) a0_0 a0_1 l0_2) = some r := H
     have A9 := Aside0.mk A90
     clear A90
     have H' := Aside0.mk H
     clear H
     (go_wp2)
     have n0_ := Aside0.mk (Kd.R_drew HO_5.out)
     have n1_ := Aside0.mk (blk_drew BK786.out)
     have n2_ := Aside0.mk (below_drew1 HB.out)
     clear HO_5 BK786 HB
     have HO_5 := n0_
     have BK786 := n1_
     have HB := n2_
     clear n0_ n1_ n2_
     have p790 : 0 ≤ (x6_1 : Int) := of_decide_eq_true (by (with_reducible assumption))
     have q790 : x6_1 < (l1.length : Int) := of_decide_eq_true (by (with_reducible assumption))
     obtain ⟨ad790, e790, hx790_0⟩ := Kd.at_int HR1.out x6_1 p790 q790
     have hw790_0 := hx790_0
     cases e790
     replace hx790_0 := (HB.out.cell (World.block_lt_of_cell? w _ hx790_0)).trans hx790_0
     replace p790 := eq_true p790
     replace q790 := eq_true q790
     refine start_ (n := 11) (S := fun w' => w'.cell? ⟨gb786, 0, none⟩ = some (.int .i64 a0_0) ∧ w'.cell? ⟨gb786, 1, none⟩ = some (.int .i64 a0_1) ∧ w'.cell? ⟨gb786, 2, none⟩ = some (.slice A0_2 l0_2.length c0_2) ∧ w'.cell? (ad790.add (x6_1).toNat) = some (.int .i64 (rd l1 x6_1))) (ds := []) (bm 11 0) (by kernel_rfl) rfl rfl ⟨(blk_cell BK786.out 0).trans rfl, (blk_cell BK786.out 1).trans rfl, (blk_cell BK786.out 2).trans rfl, ((HB.out.cell (World.block_lt_of_cell? w _ hw790_0)).trans hw790_0)⟩ (fun hHeld => ?_); refine with_tabW codewrightref38_Locator.tab5 codewrightref38_Locator.bits5 (fun HT_ HW_ => ?_)
     generalize wr.drew = w10 at HO_5 BK786 HB hx790_0 hHeld ⊢
     refine pure_ (i := 1) (N := some 15) (v := ?_) (a' := ?_) (bm 11 2) rfl rfl (any_of HT_.out (by kernel_rfl)) (fun _ _ _ h => h) (Or.inl ⟨by rfl, ?_⟩) ?_ ?_;rotate_left;(intro w';go_simp;with_reducible rfl);rotate_left;(simp only [ps_];rfl)
     refine pure_ (i := 3) (N := some 17) (v := ?_) (a' := ?_) (bm 11 10) rfl rfl (any_of HT_.out (by kernel_rfl)) (fun _ _ _ h => h) (Or.inl ⟨by rfl, ?_⟩) ?_ ?_;rotate_left;(intro w';go_simp;with_reducible rfl);rotate_left;(simp only [ps_];rfl)
     refine pure_ (i := 4) (N := some 18) (v := ?_) (a' := ?_) (bm 11 26) rfl rfl (any_of HT_.out (by kernel_rfl)) (fun _ _ _ h => h) (Or.inl ⟨by rfl, ?_⟩) ?_ ?_;rotate_left;(intro w';go_simp;with_reducible rfl);rotate_left;(simp only [ps_];rfl)
     refine pure_ (i := 5) (N := some 19) (v := ?_) (a' := ?_) (bm 11 58) rfl rfl (any_of HT_.out (by kernel_rfl)) (fun _ _ _ h => h) (Or.inl ⟨by rfl, ?_⟩) ?_ ?_;rotate_left;(intro w';go_simp;with_reducible rfl);rotate_left;(simp only [ps_];rfl)
     refine take_ (i := 0) (N := some 14) (v := ?_) (a' := ?_) (bm 11 59) rfl rfl (take_ofW HT_.out HW_.out (by kernel_rfl)) (fun _ _ _ h => h) (Or.inl ⟨by rfl, ?_⟩) hHeld ?_ ?_;rotate_left;(rintro w' ⟨s0, s1, s2, s3⟩;go_simp;with_reducible rfl);rotate_left;(simp only [ps_];rfl)
     refine take_ (i := 2) (N := some 16) (v := ?_) (a' := ?_) (bm 11 63) rfl rfl (take_ofW HT_.out HW_.out (by kernel_rfl)) (fun _ _ _ h => h) (Or.inl ⟨by rfl, ?_⟩) hHeld ?_ ?_;rotate_left;(rintro w' ⟨s0, s1, s2, s3⟩;go_simp;with_reducible rfl);rotate_left;(simp only [ps_];rfl)
     refine take_ (i := 6) (N := some 20) (v := ?_) (a' := ?_) (bm 11 127) rfl rfl (take_ofW HT_.out HW_.out (by kernel_rfl)) (fun _ _ _ h => h) (Or.inl ⟨by rfl, ?_⟩) hHeld ?_ ?_;rotate_left;(rintro w' ⟨s0, s1, s2, s3⟩;go_simp;with_reducible rfl);rotate_left;(simp only [ps_];rfl)
     refine one_ (i := 7) (N := some 21) (bm 11 255) rfl rfl (one_of HT_.out (by kernel_rfl)) (by decide) (fun K hK => ?_)
     refine goes_ Try.func59 (by kernel_rfl) rfl #[.agg #[.int .i64 a0_0, .int .i64 a0_1, .slice A0_2 l0_2.length c0_2], .int .i64 (rd l1 x6_1)] (by rfl) rfl rfl (by ((simp only [List.map_toArray, List.map_cons, List.map_nil])); (rfl)) ?_
     with_reducible refine (codewrightref04_Neg.calls k1 a0_0 a0_1 _ _ l0_2 (rd l1 x6_1) t791 _ ?side1 ?side2 A8.out).mono ?_
     (case side1 => repeat ((exact (Kd.C_below HR0_2.out HB.out))))
     (case side2 => exact HC0_2.out)
     rintro e w11 ⟨rfl, hb⟩
     refine ⟨_, rfl, ?_⟩
     have n0_ := Aside0.mk (Kd.R_below HO_5.out hb)
     have n1_ := Aside0.mk (blk_below (g := gb786) (o := .cells #[.int .i64 a0_0, .int .i64 a0_1, .slice A0_2 l0_2.length c0_2] 24 (0, 0)) BK786.out hb)
     have n2_ := Aside0.mk (below_step HB.out hb)
     clear HO_5 BK786 HB
     have HO_5 := n0_
     have BK786 := n1_
     have HB := n2_
     clear n0_ n1_ n2_
     ((clear hb))
     refine hK.out _ _ ⟨(blk_cell BK786.out 0).trans rfl, (blk_cell BK786.out 1).trans rfl, (blk_cell BK786.out 2).trans rfl, ((HB.out.cell (World.block_lt_of_cell? w _ hw790_0)).trans hw790_0)⟩ (fun hHeld => ?_)
     clear hK K
     refine norm_ (a' := ?_) ?_ ?_
     rotate_left
     ·show Act.put _ (some 21) _ = _
      simp only [Act.put, List.setIfInBounds_toArray, List.set_cons_zero, List.set_cons_succ, i64_w, i32_w]
      rfl
     refine one_ (i := 8) (N := some 22) (bm 11 511) rfl rfl (one_of HT_.out (by kernel_rfl)) (by decide) (fun K hK => ?_)
     refine Kd.R_lit_step (Kd.int .i64) _ 3 ?hg (N := 22) ?hd (xs := ([1, t791] : List Int)) (inner := [.int .i64 1, .int .i64 t791]) (ok := fun _ => True) (okp := fun _ => True) ?hr ?hp (fun _ hk => hk) trivial (Below.refl _ _) (Nat.le_refl _) (by simp) ?_; (case hd => rfl); (case hg => rfl); (case hr => (go_simp; done)); (case hp => exact (Reps.one (show Kd.M (Kd.int .i64) _ _ _ 1 [.int .i64 1] from rfl) (Reps.one (show Kd.M (Kd.int .i64) _ _ _ t791 [.int .i64 t791] from rfl) (Reps.none _ _))))
     intro v793 w12 ho13 hb hg_ hnew_
     clear hg_ hnew_
     ((rw [← Ny792.out] at ho13))
     have n0_ := Aside0.mk (Kd.R_elder' HO_5.out (Kd.R_base ho13) hb)
     have n1_ := Aside0.mk (Kd.R_lower (Kd.R_new' ho13 (Kd.R_lt HO_5.out)) (below_size HB.out))
     have n2_ := Aside0.mk (blk_below (g := gb786) (o := .cells #[.int .i64 a0_0, .int .i64 a0_1, .slice A0_2 l0_2.length c0_2] 24 (0, 0)) BK786.out hb)
     have n3_ := Aside0.mk (below_step HB.out hb)
     clear HO_5 BK786 HB
     have HO_5 := n0_
     have HO794 := n1_
     have BK786 := n2_
     have HB := n3_
     clear n0_ n1_ n2_ n3_ hb ho13
     obtain ⟨Ao14, co14, eo14⟩ := Kd.R_slice HO_5.out
     ((subst eo14))
     obtain ⟨Ao15, co15, eo15⟩ := Kd.R_slice HO794.out
     ((subst eo15))
     refine hK.out _ _ ⟨(blk_cell BK786.out 0).trans rfl, (blk_cell BK786.out 1).trans rfl, (blk_cell BK786.out 2).trans rfl, ((HB.out.cell (World.block_lt_of_cell? w _ hw790_0)).trans hw790_0)⟩ (fun hHeld => ?_)
     clear hK K
     refine norm_ (a' := ?_) ?_ ?_
     rotate_left
     ·show Act.put _ (some 22) _ = _
      simp only [Act.put, List.setIfInBounds_toArray, List.set_cons_zero, List.set_cons_succ, i64_w, i32_w]
      rfl
     refine one_ (i := 9) (N := some 23) (bm 11 1023) rfl rfl (one_of HT_.out (by kernel_rfl)) (by decide) (fun K hK => ?_)
     refine goes_ Try.func28 (by kernel_rfl) rfl #[.agg #[.int .i64 a0_0, .int .i64 a0_1, .slice A0_2 l0_2.length c0_2], .slice Ao14 x5_1.length co14, .slice Ao15 y792.length co15] (by rfl) rfl rfl (by ((simp only [List.map_toArray, List.map_cons, List.map_nil])); (rfl)) ?_
     with_reducible refine (codewrightref05_Mul.calls k1 a0_0 a0_1 _ _ l0_2 _ _ x5_1 _ _ y792 t795 _ ?side1 ?side2 ?side3 ?side4 ?side5 ?side6 A9.out).mono ?_
     (case side1 => repeat ((exact (Kd.C_below HR0_2.out HB.out))))
     (case side2 => exact HC0_2.out)
     (case side3 => repeat ((exact (Kd.R_reads' HO_5.out).2.2)))
     (case side4 => exact (Kd.R_reads' HO_5.out).2.1)
     (case side5 => repeat ((exact (Kd.R_reads' HO794.out).2.2)))
     (case side6 => exact (Kd.R_reads' HO794.out).2.1)
     rintro e w16 ⟨v796, rfl, ho0, hb⟩
     refine ⟨_, rfl, ?_⟩
     have n0_ := Aside0.mk (Kd.R_elder' HO_5.out (Kd.R_base ho0) hb)
     have n1_ := Aside0.mk (Kd.R_elder' HO794.out (Kd.R_base ho0) hb)
     have n2_ := Aside0.mk (Kd.R_lower (Kd.R_new' (Kd.R_new' ho0 (Kd.R_lt HO_5.out)) (Kd.R_lt HO794.out)) (below_size HB.out))
     have n3_ := Aside0.mk (blk_below (g := gb786) (o := .cells #[.int .i64 a0_0, .int .i64 a0_1, .slice A0_2 l0_2.length c0_2] 24 (0, 0)) BK786.out hb)
     have n4_ := Aside0.mk (below_step HB.out hb)
     clear HO_5 HO794 BK786 HB
     have HO_5 := n0_
     have HO794 := n1_
     have HO797 := n2_
     have BK786 := n3_
     have HB := n4_
     clear n0_ n1_ n2_ n3_ n4_
     ((clear hb))
     ((clear ho0))
     refine hK.out _ _ ⟨(blk_cell BK786.out 0).trans rfl, (blk_cell BK786.out 1).trans rfl, (blk_cell BK786.out 2).trans rfl, ((HB.out.cell (World.block_lt_of_cell? w _ hw790_0)).trans hw790_0)⟩ (fun hHeld => ?_)
     clear hK K
     refine norm_ (a' := ?_) ?_ ?_
     rotate_left
     ·show Act.put _ (some 23) _ = _
      simp only [Act.put, List.setIfInBounds_toArray, List.set_cons_zero, List.set_cons_succ, i64_w, i32_w]
      rfl
     refine pure_ (i := 10) (N := some 5) (v := ?_) (a' := ?_) (bm 11 2047) rfl rfl (any_of HT_.out (by kernel_rfl)) (fun _ _ _ h => h) (Or.inl ⟨by rfl, ?_⟩) ?_ ?_;rotate_left;(intro w';go_simp;with_reducible rfl);rotate_left;(simp only [ps_];rfl)
     refine done_ (done_of HT_.out (by kernel_rfl)) ?_
     (go_wp2)
     go_roundg k1
     case measure => have := HK1.out; omega
     case rel => exact ⟨(t795), (wrap64 (x6_1 + 1)), (by rfl), H', ⟨by have := HK1.out; omega⟩, ⟨by exact Kd.R_mono HO797.out (fun _ hk => trivial)⟩, ⟨BK786.out⟩, ⟨HB.out⟩⟩
    ·rw [if_neg c7] at H
     exact absurd H (by simp)
   ·rw [if_neg c6] at H
    have c6b0 : decide (x6_1 < (l1.length : Int)) = false := decide_eq_false c6
    clear c6
    obtain rfl := Option.some.inj H
    go_wp2
    go_ret
    exact ⟨_, by rfl, by exact HO_5.out, by exact HB.out⟩
end Go.Proofs.Ytkdakjlopheefaa.PA
end
section
namespace Go.Proofs.Ytkdakjlopheefaa.PA
open Go.RowKit Go.Proofs.YtkdakjlopheefaaW.PrintWords Go.Proofs.YtkdakjlopheefaaW.PrintLast Go.Proofs.YtkdakjlopheefaaW.PrintMore
attribute [local go_sem] max2_int min2_int max_two min_two max_three min_three max_four min_four
set_option linter.unusedVariables false
set_option linter.unusedSimpArgs false
end Go.Proofs.Ytkdakjlopheefaa.PA
end
section
namespace Go.Proofs.Ytkdakjlopheefaa.PA
open Go.RowKit Go.Proofs.YtkdakjlopheefaaW.PrintWords Go.Proofs.YtkdakjlopheefaaW.PrintLast Go.Proofs.YtkdakjlopheefaaW.PrintMore
attribute [local go_sem] max2_int min2_int max_two min_two max_three min_three max_four min_four
set_option linter.unusedVariables false
set_option linter.unusedSimpArgs false
end Go.Proofs.Ytkdakjlopheefaa.PA
end
section
namespace Go.Proofs.Ytkdakjlopheefaa.PA
open Go.RowKit Go.Proofs.YtkdakjlopheefaaW.PrintWords Go.Proofs.YtkdakjlopheefaaW.PrintLast Go.Proofs.YtkdakjlopheefaaW.PrintMore
theorem Ev.succ {α : Type} {g : Nat → Option α} {r : α} (h : Ev (fun k => g (k + 1)) r) : Ev g r := Ev.step (fun _ => rfl) h
theorem Ev.ifp {α : Type} {c : Prop} [Decidable c] {f g : Nat → Option α} {r : α} (h : c) (e : Ev f r) : Ev (fun k => if c then f k else g k) r := by simp only [if_pos h]; exact e
theorem Ev.ifn {α : Type} {c : Prop} [Decidable c] {f g : Nat → Option α} {r : α} (h : ¬ c) (e : Ev g r) : Ev (fun k => if c then f k else g k) r := by simp only [if_neg h]; exact e
theorem Ev.val {α : Type} {a r : α} (h : a = r) : Ev (fun _ => some a) r := h ▸ Ev.now a
theorem Ev.some_bind {α β : Type} {a : α} {f : Nat → α → Option β} {r : β} (h : Ev (fun k => f k a) r) : Ev (fun k => (some a).bind (f k)) r := h
theorem Ev.opt_bind {α β : Type} {o : Option α} {a : α} {f : Nat → α → Option β} {r : β} (h0 : o = some a) (h : Ev (fun k => f k a) r) : Ev (fun k => o.bind (f k)) r := by subst h0; exact h
theorem w64 {n : Int} (h : -4000000000000000000 ≤ n ∧ n ≤ 4000000000000000000) : wrap64 n = n := by unfold wrap64; omega
theorem rd_nat (xs : List Int) (j : Nat) : rd xs (j : Int) = xs.getD j 0 := by unfold rd; rw [Int.toNat_natCast]
theorem rd_set (xs : List Int) (i j : Nat) (v : Int) (h : i < xs.length) : (xs.set i v).getD j 0 = if i = j then v else xs.getD j 0 := by
  rw [List.getD_eq_getElem?_getD, List.getElem?_set]
  split
  · rename_i e; subst e; simp [h]
  · rw [List.getD_eq_getElem?_getD]
theorem tdiv_pos {a b : Int} (h : 0 ≤ a) : Int.tdiv a b = a / b := Int.tdiv_eq_ediv_of_nonneg h
theorem tmod_pos {a b : Int} (h : 0 ≤ a) : Int.tmod a b = a % b := Int.tmod_eq_emod_of_nonneg h
theorem getD_nat_lt (xs : List Int) (j : Nat) (h : xs.length ≤ j) : xs.getD j 0 = 0 := by
  rw [List.getD_eq_getElem?_getD, List.getElem?_eq_none h]; rfl
theorem getD_zeros (n j : Nat) : (List.replicate n (0 : Int)).getD j 0 = 0 := by
  rw [List.getD_eq_getElem?_getD, List.getElem?_replicate]; split <;> rfl
end Go.Proofs.Ytkdakjlopheefaa.PA
end
