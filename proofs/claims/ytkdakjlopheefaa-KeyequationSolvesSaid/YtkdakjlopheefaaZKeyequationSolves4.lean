/- Proved: for every input the law KeyequationSolves returns true and leaves its arguments as they were; no conditions. Part 5 of 7 of the proof. -/
import Derived.Test.YtkdakjlopheefaaZKeyequationSolves3
set_option linter.unusedSectionVars false
set_option linter.unusedSimpArgs false
set_option linter.unusedVariables false
section
namespace Go.Proofs.Ytkdakjlopheefaa.PA
open Go.RowKit Go.Proofs.YtkdakjlopheefaaW.PrintWords Go.Proofs.YtkdakjlopheefaaW.PrintLast Go.Proofs.YtkdakjlopheefaaW.PrintMore
attribute [local go_sem] max2_int min2_int max_two min_two max_three min_three max_four min_four
set_option linter.unusedVariables false
set_option linter.unusedSimpArgs false
mutual
def codewrightref05_Mul.l0 : Nat → List Int → List Int → List Int → Int → Int → Int → List Int → Option (List Int)
 | 0, _, _, _, _, _, _, _ => none
 | k + 1, x1, x2, x7, x8, x651000, x651001, x651002 => if x8 < (x1.length : Int) then (codewrightref05_Mul.l1 k x1 x2 x7 x8 0 x651000 x651001 x651002) else ((codewrightref05_Canon.f k x651000 x651001 x651002 x7).bind fun t660 => (some t660))
def codewrightref05_Mul.l1 : Nat → List Int → List Int → List Int → Int → Int → Int → Int → List Int → Option (List Int)
 | 0, _, _, _, _, _, _, _, _ => none
 | k + 1, x1, x2, x7, x8, x9, x651000, x651001, x651002 => if x9 < (x2.length : Int) then (if 0 ≤ (wrap64 (x8 + x9)) then (if (wrap64 (x8 + x9)) < (x7.length : Int) then (if 0 ≤ x8 then (if x8 < (x1.length : Int) then (if 0 ≤ x9 then ((codewrightref04_Mul.f k x651000 x651001 x651002 (rd x1 x8) (rd x2 x9)).bind fun t666 => ((codewrightref04_Add.f k x651000 x651001 x651002 (rd x7 (wrap64 (x8 + x9))) t666).bind fun t667 => (codewrightref05_Mul.l1 k x1 x2 (x7.set ((wrap64 (x8 + x9)) : Int).toNat t667) x8 (wrap64 (x9 + 1)) x651000 x651001 x651002))) else (none)) else (none)) else (none)) else (none)) else (none)) else (codewrightref05_Mul.l0 k x1 x2 x7 (wrap64 (x8 + 1)) x651000 x651001 x651002)
end
def codewrightref05_Mul.f (k : Nat) (a0_0 : Int) (a0_1 : Int) (l0_2 : List Int) (l1 : List Int) (l2 : List Int) : Option (List Int) := (codewrightref05_Canon.f k a0_0 a0_1 l0_2 l1).bind fun t651 => ((codewrightref05_Canon.f k a0_0 a0_1 l0_2 l2).bind fun t654 => (if 0 ≤ (wrap64 ((t651.length : Int) + (t654.length : Int))) then (if (wrap64 ((t651.length : Int) + (t654.length : Int)) : Int).toNat ≤ 35184372088832 then (codewrightref05_Mul.l0 k t651 t654 (List.replicate (wrap64 ((t651.length : Int) + (t654.length : Int)) : Int).toNat 0) 0 a0_0 a0_1 l0_2) else (none)) else (none)))
def codewrightref05_Mul.T10 : Bool × List (List Nat × List Nat) := (true, [([], []), ([], []), ([], []), ([1, 2], [1, 2]), ([], []), ([], []), ([], []), ([], []), ([6, 7], [6, 7]), ([5, 8], [5, 8]), ([9], [9]), ([], []), ([], []), ([], []), ([12, 13], [12, 13]), ([14], [14]), ([], []), ([], []), ([16, 17], [16, 17]), ([18], [18]), ([11, 15, 19], [11, 15, 19]), ([4, 10, 20, 20], [4, 10, 20]), ([0, 3, 0, 1, 2, 3, 4, 5, 6, 7, 8, 9, 10, 11, 12, 13, 14, 15, 16, 17, 18, 19, 20, 21], [0, 3]), ([22, 21, 21, 0, 1, 2, 3, 4, 5, 6, 7, 8, 9, 10, 11, 12, 13, 14, 15, 16, 17, 18, 19, 20, 21], [21, 22])])
def codewrightref05_Mul.B10 : List Nat := [0, 0, 0, 6, 0, 0, 0, 0, 192, 480, 992, 0, 0, 0, 12288, 28672, 0, 0, 196608, 458752, 1046528, 2097136, 4194303, 8388607]
theorem codewrightref05_Mul.tab10 : rtab .any (opsOf Try.f28 10) = codewrightref05_Mul.T10 := by kernel_rfl
theorem codewrightref05_Mul.bits10 : waitsOk codewrightref05_Mul.T10.2 codewrightref05_Mul.B10 = true := by kernel_rfl
set_option maxHeartbeats 8000000 in
set_option maxRecDepth 100000 in
theorem codewrightref05_Mul.calls (k : Nat) (a0_0 : Int) (a0_1 : Int) (A0_2 : Option Addr) (c0_2 : Nat) (l0_2 : List Int) (A1 : Option Addr) (c1 : Nat) (l1 : List Int) (A2 : Option Addr) (c2 : Nat) (l2 : List Int) (r : List Int) (w : World) (hr0_2 : Kd.C (Kd.int .i64) w A0_2 l0_2.length l0_2) (hc0_2 : l0_2.length ≤ c0_2) (hr1 : Kd.C (Kd.int .i64) w A1 l1.length l1) (hc1 : l1.length ≤ c1) (hr2 : Kd.C (Kd.int .i64) w A2 l2.length l2) (hc2 : l2.length ≤ c2) (h : codewrightref05_Mul.f k a0_0 a0_1 l0_2 l1 l2 = some r) :
  Calls Try.prog 28 #[.agg #[.int .i64 a0_0, .int .i64 a0_1, .slice A0_2 l0_2.length c0_2], .slice A1 l1.length c1, .slice A2 l2.length c2] w fun e w' => ∃ v0_ : Value, e = .returned (v0_) ∧ Kd.R (Kd.int .i64) 3 w' w.heap.size (fun _ => True) v0_ r ∧ Below w.heap.size w w' := by
 have hu24 := Try.underlying24
 have HR0_2 := Aside0.mk hr0_2
 have HC0_2 := Aside0.mk hc0_2
 clear hr0_2 hc0_2
 have HR1 := Aside0.mk hr1
 have HC1 := Aside0.mk hc1
 clear hr1 hc1
 have HR2 := Aside0.mk hr2
 have HC2 := Aside0.mk hc2
 clear hr2 hc2
 have HB := Aside0.mk (Below.refl w.heap.size w)
 have H : ((codewrightref05_Canon.f k a0_0 a0_1 l0_2 l1).bind fun t651 => ((codewrightref05_Canon.f k a0_0 a0_1 l0_2 l2).bind fun t654 => (if 0 ≤ (wrap64 ((t651.length : Int) + (t654.length : Int))) then (if (wrap64 ((t651.length : Int) + (t654.length : Int)) : Int).toNat ≤ 35184372088832 then (codewrightref05_Mul.l0 k t651 t654 (List.replicate (wrap64 ((t651.length : Int) + (t654.length : Int)) : Int).toNat 0) 0 a0_0 a0_1 l0_2) else (none)) else (none)))) = some r := h
 clear h
 obtain ⟨t651, A40, H⟩ := Option.bind_eq_some_iff.mp H
 replace H : ((codewrightref05_Canon.f k a0_0 a0_1 l0_2 l2).bind fun t654 => (if 0 ≤ (wrap64 ((t651.length : Int) + (t654.length : Int))) then (if (wrap64 ((t651.length : Int) + (t654.length : Int)) : Int).toNat ≤ 35184372088832 then (codewrightref05_Mul.l0 k t651 t654 (List.replicate (wrap64 ((t651.length : Int) + (t654.length : Int)) : Int).toNat 0) 0 a0_0 a0_1 l0_2) else (none)) else (none))) = some r := H
 have A4 := Aside0.mk A40
 clear A40
 obtain ⟨t654, A50, H⟩ := Option.bind_eq_some_iff.mp H
 replace H : (if 0 ≤ (wrap64 ((t651.length : Int) + (t654.length : Int))) then (if (wrap64 ((t651.length : Int) + (t654.length : Int)) : Int).toNat ≤ 35184372088832 then (codewrightref05_Mul.l0 k t651 t654 (List.replicate (wrap64 ((t651.length : Int) + (t654.length : Int)) : Int).toNat 0) 0 a0_0 a0_1 l0_2) else (none)) else (none)) = some r := H
 have A5 := Aside0.mk A50
 clear A50
 obtain ⟨ji6, hji6⟩ : ∃ j_ : Int, (wrap64 ((t651.length : Int) + (t654.length : Int))) = j_ := ⟨_, rfl⟩
 replace H : (if 0 ≤ (ji6) then (if (ji6 : Int).toNat ≤ 35184372088832 then (codewrightref05_Mul.l0 k t651 t654 (List.replicate (ji6 : Int).toNat 0) 0 a0_0 a0_1 l0_2) else (none)) else (none)) = some r := by (rw [hji6] at H; exact H)
 have hji6w : (IntKind.i64.wrap ((t651.length : Int) + (t654.length : Int))) = ji6 := (i64_w _).trans hji6
 by_cases c7 : 0 ≤ (ji6)
 ·rw [if_pos c7] at H
  have c7b0 := eq_true c7
  have c7b1 : decide (0 ≤ (ji6)) = true := decide_eq_true c7
  clear c7
  by_cases c8 : (ji6 : Int).toNat ≤ 35184372088832
  ·rw [if_pos c8] at H
   have c8b0 := eq_true c8
   have c8b1 : decide ((ji6 : Int).toNat ≤ 35184372088832) = true := decide_eq_true c8
   clear c8
   obtain ⟨y657, hy657⟩ : ∃ y_ : List Int, y_ = (List.replicate (ji6 : Int).toNat 0) := ⟨_, rfl⟩
   replace H : (codewrightref05_Mul.l0 k t651 t654 y657 0 a0_0 a0_1 l0_2) = some r := by (rw [hy657]; with_reducible exact H)
   have Ny657 := Aside0.mk hy657
   clear hy657
   have H' := Aside0.mk H
   clear H
   go_enter Try.func28, Try.ntmps28
   go_wp2_with (first | ((with_reducible refine gate_dst (N := 3) rfl ?_); refine box_event ?hg (N := 3) ?hd (cs := #[.int .i64 a0_0, .int .i64 a0_1, .slice A0_2 l0_2.length c0_2]) (t := 24) ?hr ?_; (case hd => rfl); (case hg => rfl); (case hr => (go_simp; done)); intro gb650 hg w9 hbox hb; have n0_ := Aside0.mk (below_step HB.out hb); have n1_ := Aside0.mk (hbox); have n2_ := Aside0.mk ((by rw [hg]; exact (below_size HB.out) : w.heap.size ≤ gb650)); have n3_ := Aside0.mk ((by rw [hg]; exact (below_size HB.out) : w.heap.size ≤ gb650)); clear HB; have HB := n0_; have BK650 := n1_; have GW650 := n2_; have GE650 := n3_; clear n0_ n1_ n2_ n3_; clear hb hbox hg; have hcz10_0 : w9.cell? ⟨gb650, 0, none⟩ = some (.int .i64 a0_0) := (blk_cell BK650.out 0).trans rfl; have hcz10_1 : w9.cell? ⟨gb650, 1, none⟩ = some (.int .i64 a0_1) := (blk_cell BK650.out 1).trans rfl; have hcz10_2 : w9.cell? ⟨gb650, 2, none⟩ = some (.slice A0_2 l0_2.length c0_2) := (blk_cell BK650.out 2).trans rfl; have hfz10_0 := blk_frozen BK650.out 0; have hfz10_1 := blk_frozen BK650.out 1; have hfz10_2 := blk_frozen BK650.out 2) | ((with_reducible refine gate_callee (f := 23) rfl ?_); refine goesL_ (some 12) rfl rfl Try.func23 (by kernel_rfl) rfl #[.agg #[.int .i64 a0_0, .int .i64 a0_1, .slice A0_2 l0_2.length c0_2], .slice A1 l1.length c1] rfl (by ((simp only [List.map_toArray, List.map_cons, List.map_nil])); (rfl)) ?_; (with_reducible refine (codewrightref05_Canon.calls k a0_0 a0_1 _ _ l0_2 _ _ l1 t651 _ ?side1 ?side2 ?side3 ?side4 A4.out).mono ?_); (case side1 => repeat ((exact (Kd.C_below HR0_2.out HB.out)))); (case side2 => exact HC0_2.out); (case side3 => repeat ((exact (Kd.C_below HR1.out HB.out)))); (case side4 => exact HC1.out); rintro e w11 ⟨v652, rfl, ho0, hb⟩; refine ⟨_, rfl, ?_⟩; have n0_ := Aside0.mk (Kd.R_lower ho0 (below_size HB.out)); have n1_ := Aside0.mk (blk_below (g := gb650) (o := .cells #[.int .i64 a0_0, .int .i64 a0_1, .slice A0_2 l0_2.length c0_2] 24 (0, 0)) BK650.out hb); have n2_ := Aside0.mk (below_step HB.out hb); clear BK650; clear HB; have HO653 := n0_; have BK650 := n1_; have HB := n2_; clear n0_ n1_ n2_; ((clear hb)); (skip); (skip); (skip); ((clear ho0)); have hcz12_0 : w11.cell? ⟨gb650, 0, none⟩ = some (.int .i64 a0_0) := (blk_cell BK650.out 0).trans rfl; have hcz12_1 : w11.cell? ⟨gb650, 1, none⟩ = some (.int .i64 a0_1) := (blk_cell BK650.out 1).trans rfl; have hcz12_2 : w11.cell? ⟨gb650, 2, none⟩ = some (.slice A0_2 l0_2.length c0_2) := (blk_cell BK650.out 2).trans rfl; have hfz12_0 := blk_frozen BK650.out 0; have hfz12_1 := blk_frozen BK650.out 1; have hfz12_2 := blk_frozen BK650.out 2) | ((with_reducible refine gate_callee (f := 23) rfl ?_); refine goesL_ (some 15) rfl rfl Try.func23 (by kernel_rfl) rfl #[.agg #[.int .i64 a0_0, .int .i64 a0_1, .slice A0_2 l0_2.length c0_2], .slice A2 l2.length c2] rfl (by ((simp only [List.map_toArray, List.map_cons, List.map_nil])); (rfl)) ?_; (with_reducible refine (codewrightref05_Canon.calls k a0_0 a0_1 _ _ l0_2 _ _ l2 t654 _ ?side1 ?side2 ?side3 ?side4 A5.out).mono ?_); (case side1 => repeat ((exact (Kd.C_below HR0_2.out HB.out)))); (case side2 => exact HC0_2.out); (case side3 => repeat ((exact (Kd.C_below HR2.out HB.out)))); (case side4 => exact HC2.out); rintro e w13 ⟨v655, rfl, ho0, hb⟩; refine ⟨_, rfl, ?_⟩; have n0_ := Aside0.mk (Kd.R_elder' HO653.out (Kd.R_base ho0) hb); have n1_ := Aside0.mk (Kd.R_lower (Kd.R_new' ho0 (Kd.R_lt HO653.out)) (below_size HB.out)); have n2_ := Aside0.mk (blk_below (g := gb650) (o := .cells #[.int .i64 a0_0, .int .i64 a0_1, .slice A0_2 l0_2.length c0_2] 24 (0, 0)) BK650.out hb); have n3_ := Aside0.mk (below_step HB.out hb); clear HO653; clear BK650; clear HB; have HO653 := n0_; have HO656 := n1_; have BK650 := n2_; have HB := n3_; clear n0_ n1_ n2_ n3_; ((clear hb)); (skip); (skip); (skip); ((clear ho0)); obtain ⟨Ao14, co14, eo14⟩ := Kd.R_slice HO653.out; subst eo14; obtain ⟨Ao15, co15, eo15⟩ := Kd.R_slice HO656.out; subst eo15) | ((with_reducible refine gate_dst (N := 21) rfl ?_); refine Kd.R_make (Kd.int .i64) _ 3 rfl (N := 21) rfl 22 _ _ rfl ji6 rfl rfl Try.underlying22 (.int .i64 0) 8 info3 rfl (by decide) (by omega) 0 (ok := fun _ => True) (okp := fun _ => True) rfl (fun _ hk => hk) trivial (of_decide_eq_true (by (with_reducible assumption))) (Nat.le_trans (Nat.mul_le_mul_right _ (of_decide_eq_true (by (with_reducible assumption)) : ji6.toNat ≤ 35184372088832)) (by omega)) (Below.refl _ _) (Nat.le_refl _) ?_; intro v658 w16 ho17 hb hg_ hnew_; clear hg_ hnew_; ((rw [← Ny657.out] at ho17)); have n0_ := Aside0.mk (Kd.R_elder' HO653.out (Kd.R_base ho17) hb); have n1_ := Aside0.mk (Kd.R_elder' HO656.out (Kd.R_base ho17) hb); have n2_ := Aside0.mk (Kd.R_lower (Kd.R_new' (Kd.R_new' ho17 (Kd.R_lt HO653.out)) (Kd.R_lt HO656.out)) (below_size HB.out)); have n3_ := Aside0.mk (blk_below (g := gb650) (o := .cells #[.int .i64 a0_0, .int .i64 a0_1, .slice A0_2 l0_2.length c0_2] 24 (0, 0)) BK650.out hb); have n4_ := Aside0.mk (below_step HB.out hb); clear HO653; clear HO656; clear BK650; clear HB; have HO653 := n0_; have HO656 := n1_; have HO659 := n2_; have BK650 := n3_; have HB := n4_; clear n0_ n1_ n2_ n3_ n4_; clear hb ho17))
   go_loopg [8] k (fun kq v8 w' => ∃ (x7_1 : List Int) (x8_1 : Int), v8 = .int .i64 x8_1 ∧ Aside0 (codewrightref05_Mul.l0 kq t651 t654 x7_1 x8_1 a0_0 a0_1 l0_2 = some r) ∧ Aside0 (kq ≤ k) ∧ Aside0 (Kd.R (Kd.int .i64) 3 w' w.heap.size (fun k_ => some k_ ≠ ((.slice Ao15 t654.length co15) : Value).ownBlock ∧ some k_ ≠ (v658 : Value).ownBlock) (.slice Ao14 t651.length co14) t651) ∧ Aside0 (Kd.R (Kd.int .i64) 3 w' w.heap.size (fun k_ => some k_ ≠ ((.slice Ao14 t651.length co14) : Value).ownBlock ∧ some k_ ≠ (v658 : Value).ownBlock) (.slice Ao15 t654.length co15) t654) ∧ Aside0 (Kd.R (Kd.int .i64) 3 w' w.heap.size (fun k_ => some k_ ≠ ((.slice Ao14 t651.length co14) : Value).ownBlock ∧ some k_ ≠ ((.slice Ao15 t654.length co15) : Value).ownBlock) v658 x7_1) ∧ Aside0 (w'.heap[gb650]? = some (.cells #[.int .i64 a0_0, .int .i64 a0_1, (.slice A0_2 l0_2.length c0_2)] 24 (0, 0))) ∧ Aside0 (Below w.heap.size w w'))
   case atStart => exact ⟨(y657), (0), (by rfl), H', ⟨Nat.le_refl _⟩, ⟨by exact Kd.R_mono HO653.out (fun _ hk => ⟨hk.1.2, hk.2⟩)⟩, ⟨by exact Kd.R_mono HO656.out (fun _ hk => ⟨hk.1.2, hk.2⟩)⟩, ⟨by exact Kd.R_mono HO659.out (fun _ hk => ⟨hk.1.2, hk.2⟩)⟩, ⟨BK650.out⟩, ⟨HB.out⟩⟩
   case round =>
    clear H' c7b0 c7b1 c8b0 c8b1 hcz10_0 hcz10_1 hcz10_2 hcz12_0 hcz12_1 hcz12_2 hfz10_0 hfz10_1 hfz10_2 hfz12_0 hfz12_1 hfz12_2
    obtain ⟨x7_1, x8_1, rfl, HA, HK1, HO_1, HO_2, HO_7, BK650, HB⟩ := hrel
    cases gk with
    | zero => exact absurd HA.out (by simp [codewrightref05_Mul.l0])
    | succ k1 =>
     have H := HA.out
     clear HA
     simp only [codewrightref05_Mul.l0] at H
     by_cases c18 : x8_1 < (t651.length : Int)
     ·rw [if_pos c18] at H
      have c18b0 : decide (x8_1 < (t651.length : Int)) = true := decide_eq_true c18
      clear c18
      have H' := Aside0.mk H
      clear H
      go_wp2
      go_loopg [9] k1 (fun kq v9 w' => ∃ (x7_2 : List Int) (x9_2 : Int), v9 = .int .i64 x9_2 ∧ Aside0 (codewrightref05_Mul.l1 kq t651 t654 x7_2 x8_1 x9_2 a0_0 a0_1 l0_2 = some r) ∧ Aside0 (kq ≤ k1) ∧ Aside0 (Kd.R (Kd.int .i64) 3 w' w.heap.size (fun k_ => some k_ ≠ ((.slice Ao15 t654.length co15) : Value).ownBlock ∧ some k_ ≠ (v658 : Value).ownBlock) (.slice Ao14 t651.length co14) t651) ∧ Aside0 (Kd.R (Kd.int .i64) 3 w' w.heap.size (fun k_ => some k_ ≠ ((.slice Ao14 t651.length co14) : Value).ownBlock ∧ some k_ ≠ (v658 : Value).ownBlock) (.slice Ao15 t654.length co15) t654) ∧ Aside0 (Kd.R (Kd.int .i64) 3 w' w.heap.size (fun k_ => some k_ ≠ ((.slice Ao14 t651.length co14) : Value).ownBlock ∧ some k_ ≠ ((.slice Ao15 t654.length co15) : Value).ownBlock) v658 x7_2) ∧ Aside0 (w'.heap[gb650]? = some (.cells #[.int .i64 a0_0, .int .i64 a0_1, (.slice A0_2 l0_2.length c0_2)] 24 (0, 0))) ∧ Aside0 (Below w.heap.size w w'))
      case atStart => exact ⟨(x7_1), (0), (by rfl), H', ⟨Nat.le_refl _⟩, ⟨HO_1.out⟩, ⟨HO_2.out⟩, ⟨HO_7.out⟩, ⟨BK650.out⟩, ⟨HB.out⟩⟩
      case round =>
       clear H' c18b0
       obtain ⟨x7_2, x9_2, rfl, HA, HK2, HO_1, HO_2, HO_7, BK650, HB⟩ := hrel
       cases gk with
       | zero => exact absurd HA.out (by simp [codewrightref05_Mul.l1])
       | succ k2 =>
        have H := HA.out
        clear HA
        simp only [codewrightref05_Mul.l1] at H
        by_cases c19 : x9_2 < (t654.length : Int)
        ·rw [if_pos c19] at H
         have c19b0 : decide (x9_2 < (t654.length : Int)) = true := decide_eq_true c19
         clear c19
         obtain ⟨ji20, hji20⟩ : ∃ j_ : Int, (wrap64 (x8_1 + x9_2)) = j_ := ⟨_, rfl⟩
         replace H : (if 0 ≤ (ji20) then (if (ji20) < (x7_2.length : Int) then (if 0 ≤ x8_1 then (if x8_1 < (t651.length : Int) then (if 0 ≤ x9_2 then ((codewrightref04_Mul.f k2 a0_0 a0_1 l0_2 (rd t651 x8_1) (rd t654 x9_2)).bind fun t666 => ((codewrightref04_Add.f k2 a0_0 a0_1 l0_2 (rd x7_2 (ji20)) t666).bind fun t667 => (codewrightref05_Mul.l1 k2 t651 t654 (x7_2.set ((ji20) : Int).toNat t667) x8_1 (wrap64 (x9_2 + 1)) a0_0 a0_1 l0_2))) else (none)) else (none)) else (none)) else (none)) else (none)) = some r := by (rw [hji20] at H; exact H)
         have hji20w : (IntKind.i64.wrap (x8_1 + x9_2)) = ji20 := (i64_w _).trans hji20
         by_cases c21 : 0 ≤ (ji20)
         ·rw [if_pos c21] at H
          have c21b0 : decide (0 ≤ (ji20)) = true := decide_eq_true c21
          clear c21
          by_cases c22 : (ji20) < (x7_2.length : Int)
          ·rw [if_pos c22] at H
           have c22b0 : decide ((ji20) < (x7_2.length : Int)) = true := decide_eq_true c22
           clear c22
           by_cases c23 : 0 ≤ x8_1
           ·rw [if_pos c23] at H
            have c23b0 : decide (0 ≤ x8_1) = true := decide_eq_true c23
            clear c23
            by_cases c24 : x8_1 < (t651.length : Int)
            ·rw [if_pos c24] at H
             have c24b0 : decide (x8_1 < (t651.length : Int)) = true := decide_eq_true c24
             clear c24
             by_cases c25 : 0 ≤ x9_2
             ·rw [if_pos c25] at H
              have c25b0 : decide (0 ≤ x9_2) = true := decide_eq_true c25
              clear c25
              obtain ⟨t666, A260, H⟩ := Option.bind_eq_some_iff.mp H
              replace H : ((codewrightref04_Add.f k2 a0_0 a0_1 l0_2 (rd x7_2 (ji20)) t666).bind fun t667 => (codewrightref05_Mul.l1 k2 t651 t654 (x7_2.set ((ji20) : Int).toNat t667) x8_1 (wrap64 (x9_2 + 1)) a0_0 a0_1 l0_2)) = some r := H
              have A26 := Aside0.mk A260
              clear A260
              obtain ⟨t667, A270, H⟩ := Option.bind_eq_some_iff.mp H
              replace H : (codewrightref05_Mul.l1 k2 t651 t654 (x7_2.set ((ji20) : Int).toNat t667) x8_1 (wrap64 (x9_2 + 1)) a0_0 a0_1 l0_2) = some r := H
              have A27 := Aside0.mk A270
              clear A270
              obtain ⟨y668, hy668⟩ : ∃ y_ : List Int, y_ = (x7_2.set ((ji20) : Int).toNat t667) := ⟨_, rfl⟩
              replace H : (codewrightref05_Mul.l1 k2 t651 t654 y668 x8_1 (wrap64 (x9_2 + 1)) a0_0 a0_1 l0_2) = some r := by (rw [hy668]; with_reducible exact H)
              have Ny668 := Aside0.mk hy668
              clear hy668
              have H' := Aside0.mk H
              clear H
              (go_wp2)
              have n0_ := Aside0.mk (Kd.R_drew HO_1.out)
              have n1_ := Aside0.mk (Kd.R_drew HO_2.out)
              have n2_ := Aside0.mk (Kd.R_drew HO_7.out)
              have n3_ := Aside0.mk (blk_drew BK650.out)
              have n4_ := Aside0.mk (below_drew1 HB.out)
              clear HO_1 HO_2 HO_7 BK650 HB
              have HO_1 := n0_
              have HO_2 := n1_
              have HO_7 := n2_
              have BK650 := n3_
              have HB := n4_
              clear n0_ n1_ n2_ n3_ n4_
              obtain ⟨Ao30, co30, eo30⟩ := Kd.R_slice HO_7.out
              ((subst eo30))
              have p663 : 0 ≤ ((ji20) : Int) := of_decide_eq_true (by (with_reducible assumption))
              have q663 : (ji20) < (x7_2.length : Int) := of_decide_eq_true (by (with_reducible assumption))
              obtain ⟨ad663, e663, hx663_0⟩ := Kd.at_int (Kd.R_reads' HO_7.out).2.2 (ji20) p663 q663
              cases e663
              replace p663 := eq_true p663
              replace q663 := eq_true q663
              have p664 : 0 ≤ (x8_1 : Int) := of_decide_eq_true (by (with_reducible assumption))
              have q664 : x8_1 < (t651.length : Int) := of_decide_eq_true (by (with_reducible assumption))
              obtain ⟨ad664, e664, hx664_0⟩ := Kd.at_int (Kd.R_reads' HO_1.out).2.2 x8_1 p664 q664
              cases e664
              replace p664 := eq_true p664
              replace q664 := eq_true q664
              have p665 : 0 ≤ (x9_2 : Int) := of_decide_eq_true (by (with_reducible assumption))
              have q665 : x9_2 < (t654.length : Int) := of_decide_eq_true (by (with_reducible assumption))
              obtain ⟨ad665, e665, hx665_0⟩ := Kd.at_int (Kd.R_reads' HO_2.out).2.2 x9_2 p665 q665
              cases e665
              replace p665 := eq_true p665
              replace q665 := eq_true q665
              refine start_ (n := 24) (S := fun w' => w'.cell? ⟨gb650, 0, none⟩ = some (.int .i64 a0_0) ∧ w'.cell? ⟨gb650, 1, none⟩ = some (.int .i64 a0_1) ∧ w'.cell? ⟨gb650, 2, none⟩ = some (.slice A0_2 l0_2.length c0_2) ∧ w'.cell? (ad663.add ((ji20)).toNat) = some (.int .i64 (rd x7_2 (ji20))) ∧ w'.cell? (ad664.add (x8_1).toNat) = some (.int .i64 (rd t651 x8_1)) ∧ w'.cell? (ad665.add (x9_2).toNat) = some (.int .i64 (rd t654 x9_2))) (ds := [23]) (bm 24 0) (by kernel_rfl) rfl rfl ⟨(blk_cell BK650.out 0).trans rfl, (blk_cell BK650.out 1).trans rfl, (blk_cell BK650.out 2).trans rfl, hx663_0, hx664_0, hx665_0⟩ (fun hHeld => ?_); refine with_tabW codewrightref05_Mul.tab10 codewrightref05_Mul.bits10 (fun HT_ HW_ => ?_)
              generalize wr.drew = w29 at HO_1 HO_2 HO_7 BK650 HB hx663_0 hx664_0 hx665_0 hHeld ⊢
              refine pu_ 0 34 (bm 24 1) HT_ ?_
              refine pu_ 1 35 (bm 24 3) HT_ ?_
              refine pu_ 2 36 (bm 24 7) HT_ ?_
              refine pu_ 3 37 (bm 24 15) HT_ ?_
              refine pu_ 5 39 (bm 24 47) HT_ ?_
              refine pu_ 6 40 (bm 24 111) HT_ ?_
              refine pu_ 7 41 (bm 24 239) HT_ ?_
              refine pu_ 8 42 (bm 24 495) HT_ ?_
              refine pu_ 9 43 (bm 24 1007) HT_ ?_
              refine pu_ 12 46 (bm 24 5103) HT_ ?_
              refine pu_ 13 47 (bm 24 13295) HT_ ?_
              refine pu_ 14 48 (bm 24 29679) HT_ ?_
              refine pu_ 16 50 (bm 24 95215) HT_ ?_
              refine pu_ 17 51 (bm 24 226287) HT_ ?_
              refine pu_ 18 52 (bm 24 488431) HT_ ?_
              refine take_ (i := 4) (N := some 38) (v := ?_) (a' := ?_) (bm 24 488447) rfl rfl (take_ofW HT_.out HW_.out (by kernel_rfl)) (fun _ _ _ h => h) (Or.inl ⟨by rfl, ?_⟩) hHeld ?_ ?_;rotate_left;(rintro w' ⟨s0, s1, s2, s3, s4, s5⟩;go_simp;with_reducible rfl);rotate_left;(simp only [ps_];rfl)
              refine take_ (i := 10) (N := some 44) (v := ?_) (a' := ?_) (bm 24 489471) rfl rfl (take_ofW HT_.out HW_.out (by kernel_rfl)) (fun _ _ _ h => h) (Or.inl ⟨by rfl, ?_⟩) hHeld ?_ ?_;rotate_left;(rintro w' ⟨s0, s1, s2, s3, s4, s5⟩;go_simp;with_reducible rfl);rotate_left;(simp only [ps_];rfl)
              refine take_ (i := 11) (N := some 45) (v := ?_) (a' := ?_) (bm 24 491519) rfl rfl (take_ofW HT_.out HW_.out (by kernel_rfl)) (fun _ _ _ h => h) (Or.inl ⟨by rfl, ?_⟩) hHeld ?_ ?_;rotate_left;(rintro w' ⟨s0, s1, s2, s3, s4, s5⟩;go_simp;with_reducible rfl);rotate_left;(simp only [ps_];rfl)
              refine take_ (i := 15) (N := some 49) (v := ?_) (a' := ?_) (bm 24 524287) rfl rfl (take_ofW HT_.out HW_.out (by kernel_rfl)) (fun _ _ _ h => h) (Or.inl ⟨by rfl, ?_⟩) hHeld ?_ ?_;rotate_left;(rintro w' ⟨s0, s1, s2, s3, s4, s5⟩;go_simp;with_reducible rfl);rotate_left;(simp only [ps_];rfl)
              refine take_ (i := 19) (N := some 53) (v := ?_) (a' := ?_) (bm 24 1048575) rfl rfl (take_ofW HT_.out HW_.out (by kernel_rfl)) (fun _ _ _ h => h) (Or.inl ⟨by rfl, ?_⟩) hHeld ?_ ?_;rotate_left;(rintro w' ⟨s0, s1, s2, s3, s4, s5⟩;go_simp;with_reducible rfl);rotate_left;(simp only [ps_];rfl)
              refine one_ (i := 20) (N := some 54) (bm 24 2097151) rfl rfl (one_of HT_.out (by kernel_rfl)) (by decide) (fun K hK => ?_)
              refine goes_ Try.func38 (by kernel_rfl) rfl #[.agg #[.int .i64 a0_0, .int .i64 a0_1, .slice A0_2 l0_2.length c0_2], .int .i64 (rd t651 x8_1), .int .i64 (rd t654 x9_2)] (by rfl) rfl rfl (by ((simp only [List.map_toArray, List.map_cons, List.map_nil])); (rfl)) ?_
              with_reducible refine (codewrightref04_Mul.calls k2 a0_0 a0_1 _ _ l0_2 (rd t651 x8_1) (rd t654 x9_2) t666 _ ?side1 ?side2 A26.out).mono ?_
              (case side1 => repeat ((exact (Kd.C_below HR0_2.out HB.out))))
              (case side2 => exact HC0_2.out)
              rintro e w31 ⟨rfl, hb⟩
              have HS3_ := (hb.cell (World.block_lt_of_cell? _ _ (hHeld.2.2.2.1))).trans (hHeld.2.2.2.1)
              have HS4_ := (hb.cell (World.block_lt_of_cell? _ _ (hHeld.2.2.2.2.1))).trans (hHeld.2.2.2.2.1)
              have HS5_ := (hb.cell (World.block_lt_of_cell? _ _ (hHeld.2.2.2.2.2))).trans (hHeld.2.2.2.2.2)
              refine ⟨_, rfl, ?_⟩
              have n0_ := Aside0.mk (Kd.R_below HO_1.out hb)
              have n1_ := Aside0.mk (Kd.R_below HO_2.out hb)
              have n2_ := Aside0.mk (Kd.R_below HO_7.out hb)
              have n3_ := Aside0.mk (blk_below (g := gb650) (o := .cells #[.int .i64 a0_0, .int .i64 a0_1, .slice A0_2 l0_2.length c0_2] 24 (0, 0)) BK650.out hb)
              have n4_ := Aside0.mk (below_step HB.out hb)
              clear HO_1 HO_2 HO_7 BK650 HB
              have HO_1 := n0_
              have HO_2 := n1_
              have HO_7 := n2_
              have BK650 := n3_
              have HB := n4_
              clear n0_ n1_ n2_ n3_ n4_
              ((clear hb))
              refine hK.out _ _ ⟨(blk_cell BK650.out 0).trans rfl, (blk_cell BK650.out 1).trans rfl, (blk_cell BK650.out 2).trans rfl, HS3_, HS4_, HS5_⟩ (fun hHeld => ?_)
              clear hK K
              refine norm_ (a' := ?_) ?_ ?_
              rotate_left
              ·show Act.put _ (some 54) _ = _
               simp only [Act.put, List.setIfInBounds_toArray, List.set_cons_zero, List.set_cons_succ, i64_w, i32_w]
               rfl
              refine one_ (i := 21) (N := some 55) (bm 24 4194303) rfl rfl (one_of HT_.out (by kernel_rfl)) (by decide) (fun K hK => ?_)
              refine goes_ Try.func55 (by kernel_rfl) rfl #[.agg #[.int .i64 a0_0, .int .i64 a0_1, .slice A0_2 l0_2.length c0_2], .int .i64 (rd x7_2 (ji20)), .int .i64 t666] (by rfl) rfl rfl (by ((simp only [List.map_toArray, List.map_cons, List.map_nil])); (rfl)) ?_
              with_reducible refine (codewrightref04_Add.calls k2 a0_0 a0_1 _ _ l0_2 (rd x7_2 (ji20)) t666 t667 _ ?side1 ?side2 A27.out).mono ?_
              (case side1 => repeat ((exact (Kd.C_below HR0_2.out HB.out))))
              (case side2 => exact HC0_2.out)
              rintro e w32 ⟨rfl, hb⟩
              have HS3_ := (hb.cell (World.block_lt_of_cell? _ _ (hHeld.2.2.2.1))).trans (hHeld.2.2.2.1)
              have HS4_ := (hb.cell (World.block_lt_of_cell? _ _ (hHeld.2.2.2.2.1))).trans (hHeld.2.2.2.2.1)
              have HS5_ := (hb.cell (World.block_lt_of_cell? _ _ (hHeld.2.2.2.2.2))).trans (hHeld.2.2.2.2.2)
              refine ⟨_, rfl, ?_⟩
              have n0_ := Aside0.mk (Kd.R_below HO_1.out hb)
              have n1_ := Aside0.mk (Kd.R_below HO_2.out hb)
              have n2_ := Aside0.mk (Kd.R_below HO_7.out hb)
              have n3_ := Aside0.mk (blk_below (g := gb650) (o := .cells #[.int .i64 a0_0, .int .i64 a0_1, .slice A0_2 l0_2.length c0_2] 24 (0, 0)) BK650.out hb)
              have n4_ := Aside0.mk (below_step HB.out hb)
              clear HO_1 HO_2 HO_7 BK650 HB
              have HO_1 := n0_
              have HO_2 := n1_
              have HO_7 := n2_
              have BK650 := n3_
              have HB := n4_
              clear n0_ n1_ n2_ n3_ n4_
              ((clear hb))
              have p28 : 0 ≤ ((ji20) : Int) := of_decide_eq_true (by (with_reducible assumption))
              have q28 : ((ji20) : Int) < ((x7_2.length : Int) : Int) := of_decide_eq_true (by (with_reducible assumption))
              obtain ⟨go28, co28, eo28, gb28, gl28, cl28, HG28⟩ := Kd.R_form HO_7.out (by omega)
              ((cases eo28))
              have GB28 := Aside0.mk gb28
              have GG28 := Aside0.mk HG28
              clear gb28 gl28 HG28
              ((simp only [add_plain] at hx663_0))
              obtain ⟨hx28_0, hf28_0⟩ := Kd.R_celln 0 HO_7.out ((ji20) : Int) p28 q28
              replace p28 := eq_true p28
              replace q28 := eq_true q28
              have HP33 := Kd.R_putn HO_7.out ((ji20) : Int) t667
              rw [← Ny668.out] at HP33
              have HQ33 := Aside0.mk HP33
              clear HP33
              refine hK.out _ _ ⟨(blk_cell BK650.out 0).trans rfl, (blk_cell BK650.out 1).trans rfl, (blk_cell BK650.out 2).trans rfl, HS3_, HS4_, HS5_⟩ (fun hHeld => ?_)
              clear hK K
              refine norm_ (a' := ?_) ?_ ?_
              rotate_left
              ·show Act.put _ (some 55) _ = _
               simp only [Act.put, List.setIfInBounds_toArray, List.set_cons_zero, List.set_cons_succ, i64_w, i32_w]
               rfl
              refine pu_ 22 56 (bm 24 8388607) HT_ ?_
              refine last_ (i := 23) (N := none) (bm 24 16777215) rfl rfl (one_of HT_.out (by kernel_rfl)) (by decide) (fun K hK => ?_)
              refine skip_ (w1 := ?_) (by rfl) rfl ?_ ?_
              rotate_left
              ·go_simp
               rfl
              refine hK.out _ _ ?_
              clear hK K
              refine done_ (done_of HT_.out (by kernel_rfl)) ?_
              (go_wp2)
              go_roundg k2
              case measure => have := HK1.out; have := HK2.out; omega
              case rel => exact ⟨(y668), (wrap64 (x9_2 + 1)), (by rfl), H', ⟨by have := HK1.out; have := HK2.out; omega⟩, ⟨by exact Kd.R_mono (Kd.R_far (p := ⟨go28, ((ji20) : Int).toNat, none⟩) (Kd.R_mono HO_1.out (fun k_ hk => (⟨hk, fun e_ => hk.2 (by rw [e_]; rfl)⟩ : _ ∧ k_ ≠ go28))) (fun _ hk => hk.2) (.int .i64 t667)) (fun _ hk => ⟨hk.1.1, hk.1.2⟩)⟩, ⟨by exact Kd.R_mono (Kd.R_far (p := ⟨go28, ((ji20) : Int).toNat, none⟩) (Kd.R_mono HO_2.out (fun k_ hk => (⟨hk, fun e_ => hk.2 (by rw [e_]; rfl)⟩ : _ ∧ k_ ≠ go28))) (fun _ hk => hk.2) (.int .i64 t667)) (fun _ hk => ⟨hk.1.1, hk.1.2⟩)⟩, ⟨HQ33.out⟩, ⟨by (with_reducible repeat (fail)); refine blk_far ?_ (by have h_ := Kd.R_ne HO_7.out BK650.out (by decide); intro e_; exact h_ (by rw [e_]; rfl)) _; (with_reducible repeat (fail)); exact BK650.out⟩, ⟨by repeat ((with_reducible first | (exact HB.out) | (refine below_set ?_ GB28.out)))⟩⟩
             ·rw [if_neg c25] at H
              exact absurd H (by simp)
            ·rw [if_neg c24] at H
             exact absurd H (by simp)
           ·rw [if_neg c23] at H
            exact absurd H (by simp)
          ·rw [if_neg c22] at H
           exact absurd H (by simp)
         ·rw [if_neg c21] at H
          exact absurd H (by simp)
        ·rw [if_neg c19] at H
         have c19b0 : decide (x9_2 < (t654.length : Int)) = false := decide_eq_false c19
         clear c19
         have H' := Aside0.mk H
         clear H
         go_wp2
         go_roundg k2
         case measure => have := HK1.out; have := HK2.out; omega
         case rel => exact ⟨(x7_2), (wrap64 (x8_1 + 1)), (by rfl), H', ⟨by have := HK1.out; have := HK2.out; omega⟩, ⟨HO_1.out⟩, ⟨HO_2.out⟩, ⟨HO_7.out⟩, ⟨BK650.out⟩, ⟨HB.out⟩⟩
     ·rw [if_neg c18] at H
      have c18b0 : decide (x8_1 < (t651.length : Int)) = false := decide_eq_false c18
      clear c18
      obtain ⟨t660, A340, H⟩ := Option.bind_eq_some_iff.mp H
      replace H : (some t660) = some r := H
      have A34 := Aside0.mk A340
      clear A340
      obtain rfl := Option.some.inj H
      have hcz35_0 : wr.cell? ⟨gb650, 0, none⟩ = some (.int .i64 a0_0) := (blk_cell BK650.out 0).trans rfl
      have hcz35_1 : wr.cell? ⟨gb650, 1, none⟩ = some (.int .i64 a0_1) := (blk_cell BK650.out 1).trans rfl
      have hcz35_2 : wr.cell? ⟨gb650, 2, none⟩ = some (.slice A0_2 l0_2.length c0_2) := (blk_cell BK650.out 2).trans rfl
      have hfz35_0 := blk_frozen BK650.out 0
      have hfz35_1 := blk_frozen BK650.out 1
      have hfz35_2 := blk_frozen BK650.out 2
      obtain ⟨Ao36, co36, eo36⟩ := Kd.R_slice HO_7.out
      subst eo36
      go_wp2_with (((with_reducible refine gate_callee (f := 23) rfl ?_); refine goesL_ (some 59) rfl rfl Try.func23 (by kernel_rfl) rfl #[.agg #[.int .i64 a0_0, .int .i64 a0_1, .slice A0_2 l0_2.length c0_2], .slice Ao36 x7_1.length co36] rfl (by ((simp only [List.map_toArray, List.map_cons, List.map_nil])); (rfl)) ?_; (with_reducible refine (codewrightref05_Canon.calls k1 a0_0 a0_1 _ _ l0_2 _ _ x7_1 t660 _ ?side1 ?side2 ?side3 ?side4 A34.out).mono ?_); (case side1 => repeat ((exact (Kd.C_below HR0_2.out HB.out)))); (case side2 => exact HC0_2.out); (case side3 => repeat ((exact (Kd.R_reads' HO_7.out).2.2))); (case side4 => exact (Kd.R_reads' HO_7.out).2.1); rintro e w37 ⟨v661, rfl, ho0, hb⟩; refine ⟨_, rfl, ?_⟩; have n0_ := Aside0.mk (Kd.R_elder' HO_1.out (Kd.R_base ho0) hb); have n1_ := Aside0.mk (Kd.R_elder' HO_2.out (Kd.R_base ho0) hb); have n2_ := Aside0.mk (Kd.R_elder' HO_7.out (Kd.R_base ho0) hb); have n3_ := Aside0.mk (Kd.R_lower (Kd.R_new' (Kd.R_new' (Kd.R_new' ho0 (Kd.R_lt HO_1.out)) (Kd.R_lt HO_2.out)) (Kd.R_lt HO_7.out)) (below_size HB.out)); have n4_ := Aside0.mk (blk_below (g := gb650) (o := .cells #[.int .i64 a0_0, .int .i64 a0_1, .slice A0_2 l0_2.length c0_2] 24 (0, 0)) BK650.out hb); have n5_ := Aside0.mk (below_step HB.out hb); clear HO_1; clear HO_2; clear HO_7; clear BK650; clear HB; have HO_1 := n0_; have HO_2 := n1_; have HO_7 := n2_; have HO662 := n3_; have BK650 := n4_; have HB := n5_; clear n0_ n1_ n2_ n3_ n4_ n5_; ((clear hb)); (skip); (skip); (skip); ((clear ho0))))
      go_ret
      exact ⟨_, by rfl, by exact Kd.R_mono HO662.out (fun _ hk => trivial), by exact HB.out⟩
  ·rw [if_neg c8] at H
   exact absurd H (by simp)
 ·rw [if_neg c7] at H
  exact absurd H (by simp)
def codewrightref05_At.f (k : Nat) (a0_0 : Int) (a0_1 : Int) (l0_2 : List Int) (l1 : List Int) (a2 : Int) : Option (Int) := if a2 < 0 then (some 0) else (if a2 ≥ (l1.length : Int) then (some 0) else (if 0 ≤ a2 then (if a2 < (l1.length : Int) then ((codewrightref04_In.f k a0_0 a0_1 l0_2 (rd l1 a2)).bind fun t671 => (some t671)) else (none)) else (none)))
set_option maxHeartbeats 8000000 in
set_option maxRecDepth 100000 in
theorem codewrightref05_At.calls (k : Nat) (a0_0 : Int) (a0_1 : Int) (A0_2 : Option Addr) (c0_2 : Nat) (l0_2 : List Int) (A1 : Option Addr) (c1 : Nat) (l1 : List Int) (a2 : Int) (r : Int) (w : World) (hr0_2 : Kd.C (Kd.int .i64) w A0_2 l0_2.length l0_2) (hc0_2 : l0_2.length ≤ c0_2) (hr1 : Kd.C (Kd.int .i64) w A1 l1.length l1) (hc1 : l1.length ≤ c1) (h : codewrightref05_At.f k a0_0 a0_1 l0_2 l1 a2 = some r) :
  Calls Try.prog 56 #[.agg #[.int .i64 a0_0, .int .i64 a0_1, .slice A0_2 l0_2.length c0_2], .slice A1 l1.length c1, .int .i64 a2] w fun e w' => e = .returned (.int .i64 r) ∧ Below w.heap.size w w' := by
 have hu24 := Try.underlying24
 have HR0_2 := Aside0.mk hr0_2
 have HC0_2 := Aside0.mk hc0_2
 clear hr0_2 hc0_2
 have HR1 := Aside0.mk hr1
 have HC1 := Aside0.mk hc1
 clear hr1 hc1
 have HB := Aside0.mk (Below.refl w.heap.size w)
 have H : (if a2 < 0 then (some 0) else (if a2 ≥ (l1.length : Int) then (some 0) else (if 0 ≤ a2 then (if a2 < (l1.length : Int) then ((codewrightref04_In.f k a0_0 a0_1 l0_2 (rd l1 a2)).bind fun t671 => (some t671)) else (none)) else (none)))) = some r := h
 clear h
 by_cases c4 : a2 < 0
 ·rw [if_pos c4] at H
  have c4b0 : decide (a2 < 0) = true := decide_eq_true c4
  clear c4
  obtain rfl := Option.some.inj H
  go_enter Try.func56, Try.ntmps56
  go_wp2_with (((with_reducible refine gate_dst (N := 3) rfl ?_); ((refine gate_guard (by rfl) ?_; dsimp only)); refine box_event ?hg (N := 3) ?hd (cs := #[.int .i64 a0_0, .int .i64 a0_1, .slice A0_2 l0_2.length c0_2]) (t := 24) ?hr ?_; (case hd => rfl); (case hg => rfl); (case hr => (go_simp; done)); intro gb669 hg w5 hbox hb; have n0_ := Aside0.mk (below_step HB.out hb); have n1_ := Aside0.mk (hbox); have n2_ := Aside0.mk ((by rw [hg]; exact (below_size HB.out) : w.heap.size ≤ gb669)); have n3_ := Aside0.mk ((by rw [hg]; exact (below_size HB.out) : w.heap.size ≤ gb669)); clear HB; have HB := n0_; have BK669 := n1_; have GW669 := n2_; have GE669 := n3_; clear n0_ n1_ n2_ n3_; clear hb hbox hg))
  go_ret
  exact ⟨by rfl, by exact HB.out⟩
 ·rw [if_neg c4] at H
  have c4b0 : decide (a2 < 0) = false := decide_eq_false c4
  clear c4
  by_cases c6 : a2 ≥ (l1.length : Int)
  ·rw [if_pos c6] at H
   have c6b0 : decide ((l1.length : Int) ≤ a2) = true := decide_eq_true c6
   clear c6
   obtain rfl := Option.some.inj H
   go_enter Try.func56, Try.ntmps56
   go_wp2_with (((with_reducible refine gate_dst (N := 3) rfl ?_); ((refine gate_guard (by rfl) ?_; dsimp only)); refine box_event ?hg (N := 3) ?hd (cs := #[.int .i64 a0_0, .int .i64 a0_1, .slice A0_2 l0_2.length c0_2]) (t := 24) ?hr ?_; (case hd => rfl); (case hg => rfl); (case hr => (go_simp; done)); intro gb669 hg w7 hbox hb; have n0_ := Aside0.mk (below_step HB.out hb); have n1_ := Aside0.mk (hbox); have n2_ := Aside0.mk ((by rw [hg]; exact (below_size HB.out) : w.heap.size ≤ gb669)); have n3_ := Aside0.mk ((by rw [hg]; exact (below_size HB.out) : w.heap.size ≤ gb669)); clear HB; have HB := n0_; have BK669 := n1_; have GW669 := n2_; have GE669 := n3_; clear n0_ n1_ n2_ n3_; clear hb hbox hg))
   go_ret
   exact ⟨by rfl, by exact HB.out⟩
  ·rw [if_neg c6] at H
   have c6b0 : decide ((l1.length : Int) ≤ a2) = false := decide_eq_false c6
   clear c6
   by_cases c8 : 0 ≤ a2
   ·rw [if_pos c8] at H
    have c8b0 : decide (0 ≤ a2) = true := decide_eq_true c8
    clear c8
    by_cases c9 : a2 < (l1.length : Int)
    ·rw [if_pos c9] at H
     have c9b0 : decide (a2 < (l1.length : Int)) = true := decide_eq_true c9
     clear c9
     obtain ⟨t671, A100, H⟩ := Option.bind_eq_some_iff.mp H
     replace H : (some t671) = some r := H
     have A10 := Aside0.mk A100
     clear A100
     obtain rfl := Option.some.inj H
     go_enter Try.func56, Try.ntmps56
     (go_wp2_with (((with_reducible refine gate_dst (N := 3) rfl ?_); ((refine gate_guard (by rfl) ?_; dsimp only)); refine box_event ?hg (N := 3) ?hd (cs := #[.int .i64 a0_0, .int .i64 a0_1, .slice A0_2 l0_2.length c0_2]) (t := 24) ?hr ?_; (case hd => rfl); (case hg => rfl); (case hr => (go_simp; done)); intro gb669 hg w11 hbox hb; have n0_ := Aside0.mk (below_step HB.out hb); have n1_ := Aside0.mk (hbox); have n2_ := Aside0.mk ((by rw [hg]; exact (below_size HB.out) : w.heap.size ≤ gb669)); have n3_ := Aside0.mk ((by rw [hg]; exact (below_size HB.out) : w.heap.size ≤ gb669)); clear HB; have HB := n0_; have BK669 := n1_; have GW669 := n2_; have GE669 := n3_; clear n0_ n1_ n2_ n3_; clear hb hbox hg)))
     have n0_ := Aside0.mk (blk_drew BK669.out)
     have n1_ := Aside0.mk (below_drew1 HB.out)
     clear BK669 HB
     have BK669 := n0_
     have HB := n1_
     clear n0_ n1_
     have p670 : 0 ≤ (a2 : Int) := of_decide_eq_true (by (with_reducible assumption))
     have q670 : a2 < (l1.length : Int) := of_decide_eq_true (by (with_reducible assumption))
     obtain ⟨ad670, e670, hx670_0⟩ := Kd.at_int HR1.out a2 p670 q670
     have hw670_0 := hx670_0
     cases e670
     replace hx670_0 := (HB.out.cell (World.block_lt_of_cell? w _ hx670_0)).trans hx670_0
     replace p670 := eq_true p670
     replace q670 := eq_true q670
     refine start_ (n := 7) (S := fun w' => w'.cell? ⟨gb669, 0, none⟩ = some (.int .i64 a0_0) ∧ w'.cell? ⟨gb669, 1, none⟩ = some (.int .i64 a0_1) ∧ w'.cell? ⟨gb669, 2, none⟩ = some (.slice A0_2 l0_2.length c0_2) ∧ w'.cell? (ad670.add (a2).toNat) = some (.int .i64 (rd l1 a2))) (ds := []) (bm 7 0) (by kernel_rfl) rfl rfl ⟨(blk_cell BK669.out 0).trans rfl, (blk_cell BK669.out 1).trans rfl, (blk_cell BK669.out 2).trans rfl, ((HB.out.cell (World.block_lt_of_cell? w _ hw670_0)).trans hw670_0)⟩ (fun hHeld => ?_)
     generalize w11.drew = w12 at BK669 HB hx670_0 hHeld ⊢
     refine pure_ (i := 1) (N := some 16) (v := ?_) (a' := ?_) (bm 7 2) rfl rfl (by kernel_rfl) (fun _ _ _ h => h) (Or.inl ⟨by rfl, ?_⟩) ?_ ?_;rotate_left;(intro w';go_simp;with_reducible rfl);rotate_left;(simp only [ps_];rfl)
     refine pure_ (i := 2) (N := some 17) (v := ?_) (a' := ?_) (bm 7 6) rfl rfl (by kernel_rfl) (fun _ _ _ h => h) (Or.inl ⟨by rfl, ?_⟩) ?_ ?_;rotate_left;(intro w';go_simp;with_reducible rfl);rotate_left;(simp only [ps_];rfl)
     refine pure_ (i := 3) (N := some 18) (v := ?_) (a' := ?_) (bm 7 14) rfl rfl (by kernel_rfl) (fun _ _ _ h => h) (Or.inl ⟨by rfl, ?_⟩) ?_ ?_;rotate_left;(intro w';go_simp;with_reducible rfl);rotate_left;(simp only [ps_];rfl)
     refine take_ (i := 0) (N := some 15) (v := ?_) (a' := ?_) (bm 7 15) rfl rfl (by kernel_rfl) (fun _ _ _ h => h) (Or.inl ⟨by rfl, ?_⟩) hHeld ?_ ?_;rotate_left;(rintro w' ⟨s0, s1, s2, s3⟩;go_simp;with_reducible rfl);rotate_left;(simp only [ps_];rfl)
     refine take_ (i := 4) (N := some 19) (v := ?_) (a' := ?_) (bm 7 31) rfl rfl (by kernel_rfl) (fun _ _ _ h => h) (Or.inl ⟨by rfl, ?_⟩) hHeld ?_ ?_;rotate_left;(rintro w' ⟨s0, s1, s2, s3⟩;go_simp;with_reducible rfl);rotate_left;(simp only [ps_];rfl)
     refine one_ (i := 5) (N := some 20) (bm 7 63) rfl rfl (by kernel_rfl) (by decide) (fun K hK => ?_)
     refine goes_ Try.func31 (by kernel_rfl) rfl #[.agg #[.int .i64 a0_0, .int .i64 a0_1, .slice A0_2 l0_2.length c0_2], .int .i64 (rd l1 a2)] (by rfl) rfl rfl (by ((simp only [List.map_toArray, List.map_cons, List.map_nil])); (rfl)) ?_
     with_reducible refine (codewrightref04_In.calls k a0_0 a0_1 _ _ l0_2 (rd l1 a2) t671 _ ?side1 ?side2 A10.out).mono ?_
     (case side1 => repeat ((exact (Kd.C_below HR0_2.out HB.out))))
     (case side2 => exact HC0_2.out)
     rintro e w13 ⟨rfl, hb⟩
     refine ⟨_, rfl, ?_⟩
     have n0_ := Aside0.mk (blk_below (g := gb669) (o := .cells #[.int .i64 a0_0, .int .i64 a0_1, .slice A0_2 l0_2.length c0_2] 24 (0, 0)) BK669.out hb)
     have n1_ := Aside0.mk (below_step HB.out hb)
     clear BK669 HB
     have BK669 := n0_
     have HB := n1_
     clear n0_ n1_
     ((clear hb))
     refine hK.out _ _ ⟨(blk_cell BK669.out 0).trans rfl, (blk_cell BK669.out 1).trans rfl, (blk_cell BK669.out 2).trans rfl, ((HB.out.cell (World.block_lt_of_cell? w _ hw670_0)).trans hw670_0)⟩ (fun hHeld => ?_)
     clear hK K
     refine norm_ (a' := ?_) ?_ ?_
     rotate_left
     ·show Act.put _ (some 20) _ = _
      simp only [Act.put, List.setIfInBounds_toArray, List.set_cons_zero, List.set_cons_succ, i64_w, i32_w]
      rfl
     refine pure_ (i := 6) (N := some 6) (v := ?_) (a' := ?_) (bm 7 127) rfl rfl (by kernel_rfl) (fun _ _ _ h => h) (Or.inl ⟨by rfl, ?_⟩) ?_ ?_;rotate_left;(intro w';go_simp;with_reducible rfl);rotate_left;(simp only [ps_];rfl)
     refine done_ (by kernel_rfl) ?_
     (go_wp2)
     go_ret
     exact ⟨by rfl, by exact HB.out⟩
    ·rw [if_neg c9] at H
     exact absurd H (by simp)
   ·rw [if_neg c8] at H
    exact absurd H (by simp)
end Go.Proofs.Ytkdakjlopheefaa.PA
end
section
namespace Go.Proofs.Ytkdakjlopheefaa.PA
open Go.RowKit Go.Proofs.YtkdakjlopheefaaW.PrintWords Go.Proofs.YtkdakjlopheefaaW.PrintLast Go.Proofs.YtkdakjlopheefaaW.PrintMore
attribute [local go_sem] max2_int min2_int max_two min_two max_three min_three max_four min_four
set_option linter.unusedVariables false
set_option linter.unusedSimpArgs false
mutual
def codewrightref38_Holds.l0 : Nat → Int → List Int → List Int → Int → Int → Int → Int → List Int → Option (Bool)
 | 0, _, _, _, _, _, _, _, _ => none
 | k + 1, x2, x4, x11, x12, x13, x673000, x673001, x673002 => if x13 < x2 then (codewrightref38_Holds.j1 k x2 x4 x11 x12 x13 (decide (x13 < x12)) x673000 x673001 x673002) else (codewrightref38_Holds.j1 k x2 x4 x11 x12 x13 false x673000 x673001 x673002)
def codewrightref38_Holds.j1 : Nat → Int → List Int → List Int → Int → Int → Bool → Int → Int → List Int → Option (Bool)
 | 0, _, _, _, _, _, _, _, _, _ => none
 | k + 1, x2, x4, x11, x12, x13, x30, x673000, x673001, x673002 => if x30 = true then ((codewrightref05_At.f k x673000 x673001 x673002 x11 x13).bind fun t676 => ((codewrightref05_At.f k x673000 x673001 x673002 x4 x13).bind fun t677 => (if t676 = t677 then (codewrightref38_Holds.l0 k x2 x4 x11 x12 (wrap64 (x13 + 1)) x673000 x673001 x673002) else (some false)))) else (some true)
end
def codewrightref38_Holds.f (k : Nat) (a0_0 : Int) (a0_1 : Int) (l0_2 : List Int) (l1 : List Int) (a2 : Int) (l3 : List Int) (l4 : List Int) : Option (Bool) := (codewrightref05_Mul.f k a0_0 a0_1 l0_2 l3 l1).bind fun t673 => (codewrightref38_Holds.l0 k a2 l4 t673 (mx (t673.length : Int) (l4.length : Int)) 0 a0_0 a0_1 l0_2)
def codewrightref38_Holds.T6 : Bool × List (List Nat × List Nat) := (true, [([], []), ([], []), ([], []), ([0, 1, 2], [0, 1, 2]), ([], []), ([], []), ([], []), ([4, 5, 6, 3], [4, 5, 6]), ([3, 7], [3, 7])])
def codewrightref38_Holds.B6 : List Nat := [0, 0, 0, 7, 0, 0, 0, 127, 255]
theorem codewrightref38_Holds.tab6 : rtab .any (opsOf Try.f36 6) = codewrightref38_Holds.T6 := by kernel_rfl
theorem codewrightref38_Holds.bits6 : waitsOk codewrightref38_Holds.T6.2 codewrightref38_Holds.B6 = true := by kernel_rfl
set_option maxHeartbeats 8000000 in
set_option maxRecDepth 100000 in
theorem codewrightref38_Holds.calls (k : Nat) (a0_0 : Int) (a0_1 : Int) (A0_2 : Option Addr) (c0_2 : Nat) (l0_2 : List Int) (A1 : Option Addr) (c1 : Nat) (l1 : List Int) (a2 : Int) (A3 : Option Addr) (c3 : Nat) (l3 : List Int) (A4 : Option Addr) (c4 : Nat) (l4 : List Int) (r : Bool) (w : World) (hr0_2 : Kd.C (Kd.int .i64) w A0_2 l0_2.length l0_2) (hc0_2 : l0_2.length ≤ c0_2) (hr1 : Kd.C (Kd.int .i64) w A1 l1.length l1) (hc1 : l1.length ≤ c1) (hr3 : Kd.C (Kd.int .i64) w A3 l3.length l3) (hc3 : l3.length ≤ c3) (hr4 : Kd.C (Kd.int .i64) w A4 l4.length l4) (hc4 : l4.length ≤ c4) (h : codewrightref38_Holds.f k a0_0 a0_1 l0_2 l1 a2 l3 l4 = some r) :
  Calls Try.prog 36 #[.agg #[.int .i64 a0_0, .int .i64 a0_1, .slice A0_2 l0_2.length c0_2], .slice A1 l1.length c1, .int .i64 a2, .slice A3 l3.length c3, .slice A4 l4.length c4] w fun e w' => e = .returned (.bool r) ∧ Below w.heap.size w w' := by
 have hu24 := Try.underlying24
 have HR0_2 := Aside0.mk hr0_2
 have HC0_2 := Aside0.mk hc0_2
 clear hr0_2 hc0_2
 have HR1 := Aside0.mk hr1
 have HC1 := Aside0.mk hc1
 clear hr1 hc1
 have HR3 := Aside0.mk hr3
 have HC3 := Aside0.mk hc3
 clear hr3 hc3
 have HR4 := Aside0.mk hr4
 have HC4 := Aside0.mk hc4
 clear hr4 hc4
 have HB := Aside0.mk (Below.refl w.heap.size w)
 have H : ((codewrightref05_Mul.f k a0_0 a0_1 l0_2 l3 l1).bind fun t673 => (codewrightref38_Holds.l0 k a2 l4 t673 (mx (t673.length : Int) (l4.length : Int)) 0 a0_0 a0_1 l0_2)) = some r := h
 clear h
 obtain ⟨t673, A60, H⟩ := Option.bind_eq_some_iff.mp H
 replace H : (codewrightref38_Holds.l0 k a2 l4 t673 (mx (t673.length : Int) (l4.length : Int)) 0 a0_0 a0_1 l0_2) = some r := H
 have A6 := Aside0.mk A60
 clear A60
 obtain ⟨ji7, hji7⟩ : ∃ j_ : Int, (mx (t673.length : Int) (l4.length : Int)) = j_ := ⟨_, rfl⟩
 replace H : (codewrightref38_Holds.l0 k a2 l4 t673 ji7 0 a0_0 a0_1 l0_2) = some r := by (rw [hji7] at H; exact H)
 ((have hji7l : 0 ≤ ji7 := by (rw [← hji7]; unfold mx; (repeat' split) <;> omega)))
 ((have hji7m : 0 ≤ ji7 := by omega))
 have hji7_ : (if (t673.length : Int) < (l4.length : Int) then (l4.length : Int) else (t673.length : Int)) = ji7 := hji7
 have hji7n : (if t673.length < l4.length then (l4.length : Int) else (t673.length : Int)) = ji7 := by rw [← hji7_]; simp only [Int.ofNat_lt]
 have H' := Aside0.mk H
 clear H
 go_enter Try.func36, Try.ntmps36
 go_wp2_with (first | ((with_reducible refine gate_dst (N := 5) rfl ?_); refine box_event ?hg (N := 5) ?hd (cs := #[.int .i64 a0_0, .int .i64 a0_1, .slice A0_2 l0_2.length c0_2]) (t := 24) ?hr ?_; (case hd => rfl); (case hg => rfl); (case hr => (go_simp; done)); intro gb672 hg w8 hbox hb; have n0_ := Aside0.mk (below_step HB.out hb); have n1_ := Aside0.mk (hbox); have n2_ := Aside0.mk ((by rw [hg]; exact (below_size HB.out) : w.heap.size ≤ gb672)); have n3_ := Aside0.mk ((by rw [hg]; exact (below_size HB.out) : w.heap.size ≤ gb672)); clear HB; have HB := n0_; have BK672 := n1_; have GW672 := n2_; have GE672 := n3_; clear n0_ n1_ n2_ n3_; clear hb hbox hg; have hcz9_0 : w8.cell? ⟨gb672, 0, none⟩ = some (.int .i64 a0_0) := (blk_cell BK672.out 0).trans rfl; have hcz9_1 : w8.cell? ⟨gb672, 1, none⟩ = some (.int .i64 a0_1) := (blk_cell BK672.out 1).trans rfl; have hcz9_2 : w8.cell? ⟨gb672, 2, none⟩ = some (.slice A0_2 l0_2.length c0_2) := (blk_cell BK672.out 2).trans rfl; have hfz9_0 := blk_frozen BK672.out 0; have hfz9_1 := blk_frozen BK672.out 1; have hfz9_2 := blk_frozen BK672.out 2) | ((with_reducible refine gate_callee (f := 28) rfl ?_); refine goesL_ (some 17) rfl rfl Try.func28 (by kernel_rfl) rfl #[.agg #[.int .i64 a0_0, .int .i64 a0_1, .slice A0_2 l0_2.length c0_2], .slice A3 l3.length c3, .slice A1 l1.length c1] rfl (by ((simp only [List.map_toArray, List.map_cons, List.map_nil])); (rfl)) ?_; (with_reducible refine (codewrightref05_Mul.calls k a0_0 a0_1 _ _ l0_2 _ _ l3 _ _ l1 t673 _ ?side1 ?side2 ?side3 ?side4 ?side5 ?side6 A6.out).mono ?_); (case side1 => repeat ((exact (Kd.C_below HR0_2.out HB.out)))); (case side2 => exact HC0_2.out); (case side3 => repeat ((exact (Kd.C_below HR3.out HB.out)))); (case side4 => exact HC3.out); (case side5 => repeat ((exact (Kd.C_below HR1.out HB.out)))); (case side6 => exact HC1.out); rintro e w10 ⟨v674, rfl, ho0, hb⟩; refine ⟨_, rfl, ?_⟩; have n0_ := Aside0.mk (Kd.R_lower ho0 (below_size HB.out)); have n1_ := Aside0.mk (blk_below (g := gb672) (o := .cells #[.int .i64 a0_0, .int .i64 a0_1, .slice A0_2 l0_2.length c0_2] 24 (0, 0)) BK672.out hb); have n2_ := Aside0.mk (below_step HB.out hb); clear BK672; clear HB; have HO675 := n0_; have BK672 := n1_; have HB := n2_; clear n0_ n1_ n2_; ((clear hb)); (skip); (skip); (skip); ((clear ho0)); obtain ⟨Ao11, co11, eo11⟩ := Kd.R_slice HO675.out; subst eo11))
 go_loopg [13] k (fun kq v13 w' => ∃ (x13_1 : Int), v13 = .int .i64 x13_1 ∧ Aside0 (codewrightref38_Holds.l0 kq a2 l4 t673 ji7 x13_1 a0_0 a0_1 l0_2 = some r) ∧ Aside0 (kq ≤ k) ∧ Aside0 (Kd.R (Kd.int .i64) 3 w' w.heap.size (fun _ => True) (.slice Ao11 t673.length co11) t673) ∧ Aside0 (w'.heap[gb672]? = some (.cells #[.int .i64 a0_0, .int .i64 a0_1, (.slice A0_2 l0_2.length c0_2)] 24 (0, 0))) ∧ Aside0 (Below w.heap.size w w'))
 case atStart => exact ⟨(0), (by rfl), H', ⟨Nat.le_refl _⟩, ⟨HO675.out⟩, ⟨BK672.out⟩, ⟨HB.out⟩⟩
 case round =>
  clear H' hcz9_0 hcz9_1 hcz9_2 hfz9_0 hfz9_1 hfz9_2
  obtain ⟨x13_1, rfl, HA, HK1, HO_11, BK672, HB⟩ := hrel
  cases gk with
  | zero => exact absurd HA.out (by simp [codewrightref38_Holds.l0])
  | succ k1 =>
   have H := HA.out
   clear HA
   simp only [codewrightref38_Holds.l0] at H
   have HC12 := Aside0.mk H
   clear H
   go_upto_region 4 with (fail)
   go_cut [30] (fun v30 wc => ∃ (kq : Nat) (x30_11 : Bool), v30 = .bool x30_11 ∧ Aside0 (codewrightref38_Holds.j1 kq a2 l4 t673 ji7 x13_1 x30_11 a0_0 a0_1 l0_2 = some r) ∧ Aside0 (kq ≤ k1) ∧ Aside0 (Kd.R (Kd.int .i64) 3 wc w.heap.size (fun _ => True) (.slice Ao11 t673.length co11) t673) ∧ Aside0 (wc.heap[gb672]? = some (.cells #[.int .i64 a0_0, .int .i64 a0_1, (.slice A0_2 l0_2.length c0_2)] 24 (0, 0))) ∧ Aside0 (Below w.heap.size w wc))
   case first =>
    have H := HC12.out
    clear HC12
    by_cases c13 : x13_1 < a2
    ·rw [if_pos c13] at H
     have c13b0 : decide (x13_1 < a2) = true := decide_eq_true c13
     clear c13
     ((skip))
     have H' := Aside0.mk H
     clear H
     go_wp2
     go_meet
     case rel => exact ⟨_, (decide (x13_1 < ji7)), (by rfl), H', ⟨by have := HK1.out; (omega)⟩, ⟨HO_11.out⟩, ⟨BK672.out⟩, ⟨HB.out⟩⟩
    ·rw [if_neg c13] at H
     have c13b0 : decide (x13_1 < a2) = false := decide_eq_false c13
     clear c13
     ((skip))
     have H' := Aside0.mk H
     clear H
     go_wp2
     go_meet
     case rel => exact ⟨_, (false), (by rfl), H', ⟨by have := HK1.out; (omega)⟩, ⟨HO_11.out⟩, ⟨BK672.out⟩, ⟨HB.out⟩⟩
   case rest =>
    clear HC12
    obtain ⟨kq, x30_11, rfl, HA, HJ11, HO_11, BK672, HB⟩ := hcut
    cases kq with
    | zero => exact absurd HA.out (by simp [codewrightref38_Holds.j1])
    | succ kj11 =>
     have H := HA.out
     clear HA
     simp only [codewrightref38_Holds.j1] at H
     by_cases c14 : x30_11 = true
     ·subst c14
      have H1 : ((codewrightref05_At.f kj11 a0_0 a0_1 l0_2 t673 x13_1).bind fun t676 => ((codewrightref05_At.f kj11 a0_0 a0_1 l0_2 l4 x13_1).bind fun t677 => (if t676 = t677 then (codewrightref38_Holds.l0 kj11 a2 l4 t673 ji7 (wrap64 (x13_1 + 1)) a0_0 a0_1 l0_2) else (some false)))) = some r := by rw [if_pos rfl] at H; exact H
      clear H
      have H := H1
      clear H1
      obtain ⟨t676, A150, H⟩ := Option.bind_eq_some_iff.mp H
      replace H : ((codewrightref05_At.f kj11 a0_0 a0_1 l0_2 l4 x13_1).bind fun t677 => (if t676 = t677 then (codewrightref38_Holds.l0 kj11 a2 l4 t673 ji7 (wrap64 (x13_1 + 1)) a0_0 a0_1 l0_2) else (some false))) = some r := H
      have A15 := Aside0.mk A150
      clear A150
      obtain ⟨t677, A160, H⟩ := Option.bind_eq_some_iff.mp H
      replace H : (if t676 = t677 then (codewrightref38_Holds.l0 kj11 a2 l4 t673 ji7 (wrap64 (x13_1 + 1)) a0_0 a0_1 l0_2) else (some false)) = some r := H
      have A16 := Aside0.mk A160
      clear A160
      by_cases c17 : t676 = t677
      ·rw [if_pos c17] at H
       have c17b0 : (t676 == t677) = true := beq_iff_eq.mpr c17
       have c17b1 : (t676 != t677) = false := bne_eq_false_iff_eq.mpr c17
       clear c17
       have H' := Aside0.mk H
       clear H
       (go_wp2)
       have n0_ := Aside0.mk (Kd.R_drew HO_11.out)
       have n1_ := Aside0.mk (blk_drew BK672.out)
       have n2_ := Aside0.mk (below_drew1 HB.out)
       clear HO_11 BK672 HB
       have HO_11 := n0_
       have BK672 := n1_
       have HB := n2_
       clear n0_ n1_ n2_
       refine start_ (n := 9) (S := fun w' => w'.cell? ⟨gb672, 0, none⟩ = some (.int .i64 a0_0) ∧ w'.cell? ⟨gb672, 1, none⟩ = some (.int .i64 a0_1) ∧ w'.cell? ⟨gb672, 2, none⟩ = some (.slice A0_2 l0_2.length c0_2)) (ds := []) (bm 9 0) (by kernel_rfl) rfl rfl ⟨(blk_cell BK672.out 0).trans rfl, (blk_cell BK672.out 1).trans rfl, (blk_cell BK672.out 2).trans rfl⟩ (fun hHeld => ?_); refine with_tabW codewrightref38_Holds.tab6 codewrightref38_Holds.bits6 (fun HT_ HW_ => ?_)
       generalize wc.drew = w18 at HO_11 BK672 HB hHeld ⊢
       refine pu_ 1 34 (bm 9 2) HT_ ?_
       refine pu_ 2 35 (bm 9 6) HT_ ?_
       refine pu_ 5 38 (bm 9 38) HT_ ?_
       refine pu_ 6 39 (bm 9 102) HT_ ?_
       refine take_ (i := 0) (N := some 33) (v := ?_) (a' := ?_) (bm 9 103) rfl rfl (take_ofW HT_.out HW_.out (by kernel_rfl)) (fun _ _ _ h => h) (Or.inl ⟨by rfl, ?_⟩) hHeld ?_ ?_;rotate_left;(rintro w' ⟨s0, s1, s2⟩;go_simp;with_reducible rfl);rotate_left;(simp only [ps_];rfl)
       refine take_ (i := 4) (N := some 37) (v := ?_) (a' := ?_) (bm 9 119) rfl rfl (take_ofW HT_.out HW_.out (by kernel_rfl)) (fun _ _ _ h => h) (Or.inl ⟨by rfl, ?_⟩) hHeld ?_ ?_;rotate_left;(rintro w' ⟨s0, s1, s2⟩;go_simp;with_reducible rfl);rotate_left;(simp only [ps_];rfl)
       refine one_ (i := 3) (N := some 36) (bm 9 127) rfl rfl (one_of HT_.out (by kernel_rfl)) (by decide) (fun K hK => ?_)
       refine goes_ Try.func56 (by kernel_rfl) rfl #[.agg #[.int .i64 a0_0, .int .i64 a0_1, .slice A0_2 l0_2.length c0_2], .slice Ao11 t673.length co11, .int .i64 x13_1] (by rfl) rfl rfl (by ((simp only [List.map_toArray, List.map_cons, List.map_nil])); (rfl)) ?_
       with_reducible refine (codewrightref05_At.calls kj11 a0_0 a0_1 _ _ l0_2 _ _ t673 x13_1 t676 _ ?side1 ?side2 ?side3 ?side4 A15.out).mono ?_
       (case side1 => repeat ((exact (Kd.C_below HR0_2.out HB.out))))
       (case side2 => exact HC0_2.out)
       (case side3 => repeat ((exact (Kd.R_reads' HO_11.out).2.2)))
       (case side4 => exact (Kd.R_reads' HO_11.out).2.1)
       rintro e w19 ⟨rfl, hb⟩
       refine ⟨_, rfl, ?_⟩
       have n0_ := Aside0.mk (Kd.R_below HO_11.out hb)
       have n1_ := Aside0.mk (blk_below (g := gb672) (o := .cells #[.int .i64 a0_0, .int .i64 a0_1, .slice A0_2 l0_2.length c0_2] 24 (0, 0)) BK672.out hb)
       have n2_ := Aside0.mk (below_step HB.out hb)
       clear HO_11 BK672 HB
       have HO_11 := n0_
       have BK672 := n1_
       have HB := n2_
       clear n0_ n1_ n2_
       ((clear hb))
       refine hK.out _ _ ⟨(blk_cell BK672.out 0).trans rfl, (blk_cell BK672.out 1).trans rfl, (blk_cell BK672.out 2).trans rfl⟩ (fun hHeld => ?_)
       clear hK K
       refine norm_ (a' := ?_) ?_ ?_
       rotate_left
       ·show Act.put _ (some 36) _ = _
        simp only [Act.put, List.setIfInBounds_toArray, List.set_cons_zero, List.set_cons_succ, i64_w, i32_w]
        rfl
       refine one_ (i := 7) (N := some 40) (bm 9 255) rfl rfl (one_of HT_.out (by kernel_rfl)) (by decide) (fun K hK => ?_)
       refine goes_ Try.func56 (by kernel_rfl) rfl #[.agg #[.int .i64 a0_0, .int .i64 a0_1, .slice A0_2 l0_2.length c0_2], .slice A4 l4.length c4, .int .i64 x13_1] (by rfl) rfl rfl (by ((simp only [List.map_toArray, List.map_cons, List.map_nil])); (rfl)) ?_
       with_reducible refine (codewrightref05_At.calls kj11 a0_0 a0_1 _ _ l0_2 _ _ l4 x13_1 t677 _ ?side1 ?side2 ?side3 ?side4 A16.out).mono ?_
       (case side1 => repeat ((exact (Kd.C_below HR0_2.out HB.out))))
       (case side2 => exact HC0_2.out)
       (case side3 => repeat ((exact (Kd.C_below HR4.out HB.out))))
       (case side4 => exact HC4.out)
       rintro e w20 ⟨rfl, hb⟩
       refine ⟨_, rfl, ?_⟩
       have n0_ := Aside0.mk (Kd.R_below HO_11.out hb)
       have n1_ := Aside0.mk (blk_below (g := gb672) (o := .cells #[.int .i64 a0_0, .int .i64 a0_1, .slice A0_2 l0_2.length c0_2] 24 (0, 0)) BK672.out hb)
       have n2_ := Aside0.mk (below_step HB.out hb)
       clear HO_11 BK672 HB
       have HO_11 := n0_
       have BK672 := n1_
       have HB := n2_
       clear n0_ n1_ n2_
       ((clear hb))
       refine hK.out _ _ ⟨(blk_cell BK672.out 0).trans rfl, (blk_cell BK672.out 1).trans rfl, (blk_cell BK672.out 2).trans rfl⟩ (fun hHeld => ?_)
       clear hK K
       refine norm_ (a' := ?_) ?_ ?_
       rotate_left
       ·show Act.put _ (some 40) _ = _
        simp only [Act.put, List.setIfInBounds_toArray, List.set_cons_zero, List.set_cons_succ, i64_w, i32_w]
        rfl
       refine pu_ 8 41 (bm 9 511) HT_ ?_
       refine done_ (done_of HT_.out (by kernel_rfl)) ?_
       (go_wp2)
       go_roundg kj11
       case measure => have := HK1.out; have := HJ11.out; omega
       case rel => exact ⟨(wrap64 (x13_1 + 1)), (by rfl), H', ⟨by have := HK1.out; have := HJ11.out; omega⟩, ⟨HO_11.out⟩, ⟨BK672.out⟩, ⟨HB.out⟩⟩
      ·rw [if_neg c17] at H
       have c17b0 : (t676 == t677) = false := beq_eq_false_iff_ne.mpr c17
       have c17b1 : (t676 != t677) = true := bne_iff_ne.mpr c17
       obtain rfl := Option.some.inj H
       (go_wp2)
       have n0_ := Aside0.mk (Kd.R_drew HO_11.out)
       have n1_ := Aside0.mk (blk_drew BK672.out)
       have n2_ := Aside0.mk (below_drew1 HB.out)
       clear HO_11 BK672 HB
       have HO_11 := n0_
       have BK672 := n1_
       have HB := n2_
       clear n0_ n1_ n2_
       refine start_ (n := 9) (S := fun w' => w'.cell? ⟨gb672, 0, none⟩ = some (.int .i64 a0_0) ∧ w'.cell? ⟨gb672, 1, none⟩ = some (.int .i64 a0_1) ∧ w'.cell? ⟨gb672, 2, none⟩ = some (.slice A0_2 l0_2.length c0_2)) (ds := []) (bm 9 0) (by kernel_rfl) rfl rfl ⟨(blk_cell BK672.out 0).trans rfl, (blk_cell BK672.out 1).trans rfl, (blk_cell BK672.out 2).trans rfl⟩ (fun hHeld => ?_); refine with_tabW codewrightref38_Holds.tab6 codewrightref38_Holds.bits6 (fun HT_ HW_ => ?_)
       generalize wc.drew = w21 at HO_11 BK672 HB hHeld ⊢
       refine pu_ 1 34 (bm 9 2) HT_ ?_
       refine pu_ 2 35 (bm 9 6) HT_ ?_
       refine pu_ 5 38 (bm 9 38) HT_ ?_
       refine pu_ 6 39 (bm 9 102) HT_ ?_
       refine take_ (i := 0) (N := some 33) (v := ?_) (a' := ?_) (bm 9 103) rfl rfl (take_ofW HT_.out HW_.out (by kernel_rfl)) (fun _ _ _ h => h) (Or.inl ⟨by rfl, ?_⟩) hHeld ?_ ?_;rotate_left;(rintro w' ⟨s0, s1, s2⟩;go_simp;with_reducible rfl);rotate_left;(simp only [ps_];rfl)
       refine take_ (i := 4) (N := some 37) (v := ?_) (a' := ?_) (bm 9 119) rfl rfl (take_ofW HT_.out HW_.out (by kernel_rfl)) (fun _ _ _ h => h) (Or.inl ⟨by rfl, ?_⟩) hHeld ?_ ?_;rotate_left;(rintro w' ⟨s0, s1, s2⟩;go_simp;with_reducible rfl);rotate_left;(simp only [ps_];rfl)
       refine one_ (i := 3) (N := some 36) (bm 9 127) rfl rfl (one_of HT_.out (by kernel_rfl)) (by decide) (fun K hK => ?_)
       refine goes_ Try.func56 (by kernel_rfl) rfl #[.agg #[.int .i64 a0_0, .int .i64 a0_1, .slice A0_2 l0_2.length c0_2], .slice Ao11 t673.length co11, .int .i64 x13_1] (by rfl) rfl rfl (by ((simp only [List.map_toArray, List.map_cons, List.map_nil])); (rfl)) ?_
       with_reducible refine (codewrightref05_At.calls kj11 a0_0 a0_1 _ _ l0_2 _ _ t673 x13_1 t676 _ ?side1 ?side2 ?side3 ?side4 A15.out).mono ?_
       (case side1 => repeat ((exact (Kd.C_below HR0_2.out HB.out))))
       (case side2 => exact HC0_2.out)
       (case side3 => repeat ((exact (Kd.R_reads' HO_11.out).2.2)))
       (case side4 => exact (Kd.R_reads' HO_11.out).2.1)
       rintro e w22 ⟨rfl, hb⟩
       refine ⟨_, rfl, ?_⟩
       have n0_ := Aside0.mk (Kd.R_below HO_11.out hb)
       have n1_ := Aside0.mk (blk_below (g := gb672) (o := .cells #[.int .i64 a0_0, .int .i64 a0_1, .slice A0_2 l0_2.length c0_2] 24 (0, 0)) BK672.out hb)
       have n2_ := Aside0.mk (below_step HB.out hb)
       clear HO_11 BK672 HB
       have HO_11 := n0_
       have BK672 := n1_
       have HB := n2_
       clear n0_ n1_ n2_
       ((clear hb))
       refine hK.out _ _ ⟨(blk_cell BK672.out 0).trans rfl, (blk_cell BK672.out 1).trans rfl, (blk_cell BK672.out 2).trans rfl⟩ (fun hHeld => ?_)
       clear hK K
       refine norm_ (a' := ?_) ?_ ?_
       rotate_left
       ·show Act.put _ (some 36) _ = _
        simp only [Act.put, List.setIfInBounds_toArray, List.set_cons_zero, List.set_cons_succ, i64_w, i32_w]
        rfl
       refine one_ (i := 7) (N := some 40) (bm 9 255) rfl rfl (one_of HT_.out (by kernel_rfl)) (by decide) (fun K hK => ?_)
       refine goes_ Try.func56 (by kernel_rfl) rfl #[.agg #[.int .i64 a0_0, .int .i64 a0_1, .slice A0_2 l0_2.length c0_2], .slice A4 l4.length c4, .int .i64 x13_1] (by rfl) rfl rfl (by ((simp only [List.map_toArray, List.map_cons, List.map_nil])); (rfl)) ?_
       with_reducible refine (codewrightref05_At.calls kj11 a0_0 a0_1 _ _ l0_2 _ _ l4 x13_1 t677 _ ?side1 ?side2 ?side3 ?side4 A16.out).mono ?_
       (case side1 => repeat ((exact (Kd.C_below HR0_2.out HB.out))))
       (case side2 => exact HC0_2.out)
       (case side3 => repeat ((exact (Kd.C_below HR4.out HB.out))))
       (case side4 => exact HC4.out)
       rintro e w23 ⟨rfl, hb⟩
       refine ⟨_, rfl, ?_⟩
       have n0_ := Aside0.mk (Kd.R_below HO_11.out hb)
       have n1_ := Aside0.mk (blk_below (g := gb672) (o := .cells #[.int .i64 a0_0, .int .i64 a0_1, .slice A0_2 l0_2.length c0_2] 24 (0, 0)) BK672.out hb)
       have n2_ := Aside0.mk (below_step HB.out hb)
       clear HO_11 BK672 HB
       have HO_11 := n0_
       have BK672 := n1_
       have HB := n2_
       clear n0_ n1_ n2_
       ((clear hb))
       refine hK.out _ _ ⟨(blk_cell BK672.out 0).trans rfl, (blk_cell BK672.out 1).trans rfl, (blk_cell BK672.out 2).trans rfl⟩ (fun hHeld => ?_)
       clear hK K
       refine norm_ (a' := ?_) ?_ ?_
       rotate_left
       ·show Act.put _ (some 40) _ = _
        simp only [Act.put, List.setIfInBounds_toArray, List.set_cons_zero, List.set_cons_succ, i64_w, i32_w]
        rfl
       refine pu_ 8 41 (bm 9 511) HT_ ?_
       refine done_ (done_of HT_.out (by kernel_rfl)) ?_
       (go_wp2)
       go_ret
       exact ⟨by rfl, by exact HB.out⟩
     ·replace c14 := Bool.eq_false_iff.mpr c14
      subst c14
      have H1 : (some true) = some r := by rw [if_neg (show ¬ (false = true) by decide)] at H; exact H
      clear H
      have H := H1
      clear H1
      obtain rfl := Option.some.inj H
      go_wp2
      go_ret
      exact ⟨by rfl, by exact HB.out⟩
def codewrightref38_Pair.f (k : Nat) (a0_0 : Int) (a0_1 : Int) (l0_2 : List Int) (l1 : List Int) (a2 : Int) (a3 : Int) (l4 : List Int) (l5 : List Int) : Option (Bool) := (codewrightref38_Holds.f k a0_0 a0_1 l0_2 l1 a2 l4 l5).bind fun t679 => (if t679 = true then ((codewrightref05_Degree.f k a0_0 a0_1 l0_2 l4).bind fun t680 => (if (wrap64 (2 * t680)) ≤ (wrap64 (a2 - a3)) then ((codewrightref05_Degree.f k a0_0 a0_1 l0_2 l5).bind fun t681 => (if (wrap64 (2 * t681)) < (wrap64 (a2 + a3)) then ((codewrightref05_At.f k a0_0 a0_1 l0_2 l4 0).bind fun t682 => (some (t682 == 1))) else (some false))) else (some false))) else (some false))
set_option maxHeartbeats 8000000 in
set_option maxRecDepth 100000 in
theorem codewrightref38_Pair.calls (k : Nat) (a0_0 : Int) (a0_1 : Int) (A0_2 : Option Addr) (c0_2 : Nat) (l0_2 : List Int) (A1 : Option Addr) (c1 : Nat) (l1 : List Int) (a2 : Int) (a3 : Int) (A4 : Option Addr) (c4 : Nat) (l4 : List Int) (A5 : Option Addr) (c5 : Nat) (l5 : List Int) (r : Bool) (w : World) (hr0_2 : Kd.C (Kd.int .i64) w A0_2 l0_2.length l0_2) (hc0_2 : l0_2.length ≤ c0_2) (hr1 : Kd.C (Kd.int .i64) w A1 l1.length l1) (hc1 : l1.length ≤ c1) (hr4 : Kd.C (Kd.int .i64) w A4 l4.length l4) (hc4 : l4.length ≤ c4) (hr5 : Kd.C (Kd.int .i64) w A5 l5.length l5) (hc5 : l5.length ≤ c5) (h : codewrightref38_Pair.f k a0_0 a0_1 l0_2 l1 a2 a3 l4 l5 = some r) :
  Calls Try.prog 26 #[.agg #[.int .i64 a0_0, .int .i64 a0_1, .slice A0_2 l0_2.length c0_2], .slice A1 l1.length c1, .int .i64 a2, .int .i64 a3, .slice A4 l4.length c4, .slice A5 l5.length c5] w fun e w' => e = .returned (.bool r) ∧ Below w.heap.size w w' := by
 have hu24 := Try.underlying24
 have HR0_2 := Aside0.mk hr0_2
 have HC0_2 := Aside0.mk hc0_2
 clear hr0_2 hc0_2
 have HR1 := Aside0.mk hr1
 have HC1 := Aside0.mk hc1
 clear hr1 hc1
 have HR4 := Aside0.mk hr4
 have HC4 := Aside0.mk hc4
 clear hr4 hc4
 have HR5 := Aside0.mk hr5
 have HC5 := Aside0.mk hc5
 clear hr5 hc5
 have HB := Aside0.mk (Below.refl w.heap.size w)
 have H : ((codewrightref38_Holds.f k a0_0 a0_1 l0_2 l1 a2 l4 l5).bind fun t679 => (if t679 = true then ((codewrightref05_Degree.f k a0_0 a0_1 l0_2 l4).bind fun t680 => (if (wrap64 (2 * t680)) ≤ (wrap64 (a2 - a3)) then ((codewrightref05_Degree.f k a0_0 a0_1 l0_2 l5).bind fun t681 => (if (wrap64 (2 * t681)) < (wrap64 (a2 + a3)) then ((codewrightref05_At.f k a0_0 a0_1 l0_2 l4 0).bind fun t682 => (some (t682 == 1))) else (some false))) else (some false))) else (some false))) = some r := h
 clear h
 obtain ⟨t679, A70, H⟩ := Option.bind_eq_some_iff.mp H
 replace H : (if t679 = true then ((codewrightref05_Degree.f k a0_0 a0_1 l0_2 l4).bind fun t680 => (if (wrap64 (2 * t680)) ≤ (wrap64 (a2 - a3)) then ((codewrightref05_Degree.f k a0_0 a0_1 l0_2 l5).bind fun t681 => (if (wrap64 (2 * t681)) < (wrap64 (a2 + a3)) then ((codewrightref05_At.f k a0_0 a0_1 l0_2 l4 0).bind fun t682 => (some (t682 == 1))) else (some false))) else (some false))) else (some false)) = some r := H
 have A7 := Aside0.mk A70
 clear A70
 by_cases c8 : t679 = true
 ·subst c8
  have H1 : ((codewrightref05_Degree.f k a0_0 a0_1 l0_2 l4).bind fun t680 => (if (wrap64 (2 * t680)) ≤ (wrap64 (a2 - a3)) then ((codewrightref05_Degree.f k a0_0 a0_1 l0_2 l5).bind fun t681 => (if (wrap64 (2 * t681)) < (wrap64 (a2 + a3)) then ((codewrightref05_At.f k a0_0 a0_1 l0_2 l4 0).bind fun t682 => (some (t682 == 1))) else (some false))) else (some false))) = some r := by rw [if_pos rfl] at H; exact H
  clear H
  have H := H1
  clear H1
  obtain ⟨t680, A90, H⟩ := Option.bind_eq_some_iff.mp H
  replace H : (if (wrap64 (2 * t680)) ≤ (wrap64 (a2 - a3)) then ((codewrightref05_Degree.f k a0_0 a0_1 l0_2 l5).bind fun t681 => (if (wrap64 (2 * t681)) < (wrap64 (a2 + a3)) then ((codewrightref05_At.f k a0_0 a0_1 l0_2 l4 0).bind fun t682 => (some (t682 == 1))) else (some false))) else (some false)) = some r := H
  have A9 := Aside0.mk A90
  clear A90
  by_cases c10 : (wrap64 (2 * t680)) ≤ (wrap64 (a2 - a3))
  ·rw [if_pos c10] at H
   have c10b0 : decide ((wrap64 (2 * t680)) ≤ (wrap64 (a2 - a3))) = true := decide_eq_true c10
   clear c10
   obtain ⟨t681, A110, H⟩ := Option.bind_eq_some_iff.mp H
   replace H : (if (wrap64 (2 * t681)) < (wrap64 (a2 + a3)) then ((codewrightref05_At.f k a0_0 a0_1 l0_2 l4 0).bind fun t682 => (some (t682 == 1))) else (some false)) = some r := H
   have A11 := Aside0.mk A110
   clear A110
   by_cases c12 : (wrap64 (2 * t681)) < (wrap64 (a2 + a3))
   ·rw [if_pos c12] at H
    have c12b0 : decide ((wrap64 (2 * t681)) < (wrap64 (a2 + a3))) = true := decide_eq_true c12
    clear c12
    obtain ⟨t682, A130, H⟩ := Option.bind_eq_some_iff.mp H
    replace H : (some (t682 == 1)) = some r := H
    have A13 := Aside0.mk A130
    clear A130
    obtain rfl := Option.some.inj H
    go_enter Try.func26, Try.ntmps26
    go_wp2_with (first | ((with_reducible refine gate_dst (N := 6) rfl ?_); refine box_event ?hg (N := 6) ?hd (cs := #[.int .i64 a0_0, .int .i64 a0_1, .slice A0_2 l0_2.length c0_2]) (t := 24) ?hr ?_; (case hd => rfl); (case hg => rfl); (case hr => (go_simp; done)); intro gb678 hg w14 hbox hb; have n0_ := Aside0.mk (below_step HB.out hb); have n1_ := Aside0.mk (hbox); have n2_ := Aside0.mk ((by rw [hg]; exact (below_size HB.out) : w.heap.size ≤ gb678)); have n3_ := Aside0.mk ((by rw [hg]; exact (below_size HB.out) : w.heap.size ≤ gb678)); clear HB; have HB := n0_; have BK678 := n1_; have GW678 := n2_; have GE678 := n3_; clear n0_ n1_ n2_ n3_; clear hb hbox hg; have hcz15_0 : w14.cell? ⟨gb678, 0, none⟩ = some (.int .i64 a0_0) := (blk_cell BK678.out 0).trans rfl; have hcz15_1 : w14.cell? ⟨gb678, 1, none⟩ = some (.int .i64 a0_1) := (blk_cell BK678.out 1).trans rfl; have hcz15_2 : w14.cell? ⟨gb678, 2, none⟩ = some (.slice A0_2 l0_2.length c0_2) := (blk_cell BK678.out 2).trans rfl; have hfz15_0 := blk_frozen BK678.out 0; have hfz15_1 := blk_frozen BK678.out 1; have hfz15_2 := blk_frozen BK678.out 2) | ((with_reducible refine gate_callee (f := 36) rfl ?_); refine goesL_ (some 18) rfl rfl Try.func36 (by kernel_rfl) rfl #[.agg #[.int .i64 a0_0, .int .i64 a0_1, .slice A0_2 l0_2.length c0_2], .slice A1 l1.length c1, .int .i64 a2, .slice A4 l4.length c4, .slice A5 l5.length c5] rfl (by ((simp only [List.map_toArray, List.map_cons, List.map_nil])); (rfl)) ?_; (with_reducible refine (codewrightref38_Holds.calls k a0_0 a0_1 _ _ l0_2 _ _ l1 a2 _ _ l4 _ _ l5 true _ ?side1 ?side2 ?side3 ?side4 ?side5 ?side6 ?side7 ?side8 A7.out).mono ?_); (case side1 => repeat ((exact (Kd.C_below HR0_2.out HB.out)))); (case side2 => exact HC0_2.out); (case side3 => repeat ((exact (Kd.C_below HR1.out HB.out)))); (case side4 => exact HC1.out); (case side5 => repeat ((exact (Kd.C_below HR4.out HB.out)))); (case side6 => exact HC4.out); (case side7 => repeat ((exact (Kd.C_below HR5.out HB.out)))); (case side8 => exact HC5.out); rintro e w16 ⟨rfl, hb⟩; refine ⟨_, rfl, ?_⟩; have n0_ := Aside0.mk (blk_below (g := gb678) (o := .cells #[.int .i64 a0_0, .int .i64 a0_1, .slice A0_2 l0_2.length c0_2] 24 (0, 0)) BK678.out hb); have n1_ := Aside0.mk (below_step HB.out hb); clear BK678; clear HB; have BK678 := n0_; have HB := n1_; clear n0_ n1_; ((clear hb)); (skip); (skip); (skip); have hcz17_0 : w16.cell? ⟨gb678, 0, none⟩ = some (.int .i64 a0_0) := (blk_cell BK678.out 0).trans rfl; have hcz17_1 : w16.cell? ⟨gb678, 1, none⟩ = some (.int .i64 a0_1) := (blk_cell BK678.out 1).trans rfl; have hcz17_2 : w16.cell? ⟨gb678, 2, none⟩ = some (.slice A0_2 l0_2.length c0_2) := (blk_cell BK678.out 2).trans rfl; have hfz17_0 := blk_frozen BK678.out 0; have hfz17_1 := blk_frozen BK678.out 1; have hfz17_2 := blk_frozen BK678.out 2) | (go_at_call 20; (with_reducible refine (codewrightref05_Degree.calls k a0_0 a0_1 _ _ l0_2 _ _ l4 t680 _ ?side1 ?side2 ?side3 ?side4 A9.out).mono ?_); (case side1 => repeat ((exact (Kd.C_below HR0_2.out HB.out)))); (case side2 => exact HC0_2.out); (case side3 => repeat ((exact (Kd.C_below HR4.out HB.out)))); (case side4 => exact HC4.out); rintro e w18 ⟨rfl, hb⟩; have n0_ := Aside0.mk (blk_below (g := gb678) (o := .cells #[.int .i64 a0_0, .int .i64 a0_1, .slice A0_2 l0_2.length c0_2] 24 (0, 0)) BK678.out hb); have n1_ := Aside0.mk (below_step HB.out hb); clear BK678; clear HB; have BK678 := n0_; have HB := n1_; clear n0_ n1_; ((clear hb)); (skip); (skip); (skip); have hcz19_0 : w18.cell? ⟨gb678, 0, none⟩ = some (.int .i64 a0_0) := (blk_cell BK678.out 0).trans rfl; have hcz19_1 : w18.cell? ⟨gb678, 1, none⟩ = some (.int .i64 a0_1) := (blk_cell BK678.out 1).trans rfl; have hcz19_2 : w18.cell? ⟨gb678, 2, none⟩ = some (.slice A0_2 l0_2.length c0_2) := (blk_cell BK678.out 2).trans rfl; have hfz19_0 := blk_frozen BK678.out 0; have hfz19_1 := blk_frozen BK678.out 1; have hfz19_2 := blk_frozen BK678.out 2) | (go_at_call 20; (with_reducible refine (codewrightref05_Degree.calls k a0_0 a0_1 _ _ l0_2 _ _ l5 t681 _ ?side1 ?side2 ?side3 ?side4 A11.out).mono ?_); (case side1 => repeat ((exact (Kd.C_below HR0_2.out HB.out)))); (case side2 => exact HC0_2.out); (case side3 => repeat ((exact (Kd.C_below HR5.out HB.out)))); (case side4 => exact HC5.out); rintro e w20 ⟨rfl, hb⟩; have n0_ := Aside0.mk (blk_below (g := gb678) (o := .cells #[.int .i64 a0_0, .int .i64 a0_1, .slice A0_2 l0_2.length c0_2] 24 (0, 0)) BK678.out hb); have n1_ := Aside0.mk (below_step HB.out hb); clear BK678; clear HB; have BK678 := n0_; have HB := n1_; clear n0_ n1_; ((clear hb)); (skip); (skip); (skip); have hcz21_0 : w20.cell? ⟨gb678, 0, none⟩ = some (.int .i64 a0_0) := (blk_cell BK678.out 0).trans rfl; have hcz21_1 : w20.cell? ⟨gb678, 1, none⟩ = some (.int .i64 a0_1) := (blk_cell BK678.out 1).trans rfl; have hcz21_2 : w20.cell? ⟨gb678, 2, none⟩ = some (.slice A0_2 l0_2.length c0_2) := (blk_cell BK678.out 2).trans rfl; have hfz21_0 := blk_frozen BK678.out 0; have hfz21_1 := blk_frozen BK678.out 1; have hfz21_2 := blk_frozen BK678.out 2) | (go_at_call 56; (with_reducible refine (codewrightref05_At.calls k a0_0 a0_1 _ _ l0_2 _ _ l4 0 t682 _ ?side1 ?side2 ?side3 ?side4 A13.out).mono ?_); (case side1 => repeat ((exact (Kd.C_below HR0_2.out HB.out)))); (case side2 => exact HC0_2.out); (case side3 => repeat ((exact (Kd.C_below HR4.out HB.out)))); (case side4 => exact HC4.out); rintro e w22 ⟨rfl, hb⟩; have n0_ := Aside0.mk (blk_below (g := gb678) (o := .cells #[.int .i64 a0_0, .int .i64 a0_1, .slice A0_2 l0_2.length c0_2] 24 (0, 0)) BK678.out hb); have n1_ := Aside0.mk (below_step HB.out hb); clear BK678; clear HB; have BK678 := n0_; have HB := n1_; clear n0_ n1_; ((clear hb)); (skip); (skip); (skip)))
    go_ret
    exact ⟨by rfl, by exact HB.out⟩
   ·rw [if_neg c12] at H
    have c12b0 : decide ((wrap64 (2 * t681)) < (wrap64 (a2 + a3))) = false := decide_eq_false c12
    clear c12
    obtain rfl := Option.some.inj H
    go_enter Try.func26, Try.ntmps26
    go_wp2_with (first | ((with_reducible refine gate_dst (N := 6) rfl ?_); refine box_event ?hg (N := 6) ?hd (cs := #[.int .i64 a0_0, .int .i64 a0_1, .slice A0_2 l0_2.length c0_2]) (t := 24) ?hr ?_; (case hd => rfl); (case hg => rfl); (case hr => (go_simp; done)); intro gb678 hg w23 hbox hb; have n0_ := Aside0.mk (below_step HB.out hb); have n1_ := Aside0.mk (hbox); have n2_ := Aside0.mk ((by rw [hg]; exact (below_size HB.out) : w.heap.size ≤ gb678)); have n3_ := Aside0.mk ((by rw [hg]; exact (below_size HB.out) : w.heap.size ≤ gb678)); clear HB; have HB := n0_; have BK678 := n1_; have GW678 := n2_; have GE678 := n3_; clear n0_ n1_ n2_ n3_; clear hb hbox hg; have hcz24_0 : w23.cell? ⟨gb678, 0, none⟩ = some (.int .i64 a0_0) := (blk_cell BK678.out 0).trans rfl; have hcz24_1 : w23.cell? ⟨gb678, 1, none⟩ = some (.int .i64 a0_1) := (blk_cell BK678.out 1).trans rfl; have hcz24_2 : w23.cell? ⟨gb678, 2, none⟩ = some (.slice A0_2 l0_2.length c0_2) := (blk_cell BK678.out 2).trans rfl; have hfz24_0 := blk_frozen BK678.out 0; have hfz24_1 := blk_frozen BK678.out 1; have hfz24_2 := blk_frozen BK678.out 2) | ((with_reducible refine gate_callee (f := 36) rfl ?_); refine goesL_ (some 18) rfl rfl Try.func36 (by kernel_rfl) rfl #[.agg #[.int .i64 a0_0, .int .i64 a0_1, .slice A0_2 l0_2.length c0_2], .slice A1 l1.length c1, .int .i64 a2, .slice A4 l4.length c4, .slice A5 l5.length c5] rfl (by ((simp only [List.map_toArray, List.map_cons, List.map_nil])); (rfl)) ?_; (with_reducible refine (codewrightref38_Holds.calls k a0_0 a0_1 _ _ l0_2 _ _ l1 a2 _ _ l4 _ _ l5 true _ ?side1 ?side2 ?side3 ?side4 ?side5 ?side6 ?side7 ?side8 A7.out).mono ?_); (case side1 => repeat ((exact (Kd.C_below HR0_2.out HB.out)))); (case side2 => exact HC0_2.out); (case side3 => repeat ((exact (Kd.C_below HR1.out HB.out)))); (case side4 => exact HC1.out); (case side5 => repeat ((exact (Kd.C_below HR4.out HB.out)))); (case side6 => exact HC4.out); (case side7 => repeat ((exact (Kd.C_below HR5.out HB.out)))); (case side8 => exact HC5.out); rintro e w25 ⟨rfl, hb⟩; refine ⟨_, rfl, ?_⟩; have n0_ := Aside0.mk (blk_below (g := gb678) (o := .cells #[.int .i64 a0_0, .int .i64 a0_1, .slice A0_2 l0_2.length c0_2] 24 (0, 0)) BK678.out hb); have n1_ := Aside0.mk (below_step HB.out hb); clear BK678; clear HB; have BK678 := n0_; have HB := n1_; clear n0_ n1_; ((clear hb)); (skip); (skip); (skip); have hcz26_0 : w25.cell? ⟨gb678, 0, none⟩ = some (.int .i64 a0_0) := (blk_cell BK678.out 0).trans rfl; have hcz26_1 : w25.cell? ⟨gb678, 1, none⟩ = some (.int .i64 a0_1) := (blk_cell BK678.out 1).trans rfl; have hcz26_2 : w25.cell? ⟨gb678, 2, none⟩ = some (.slice A0_2 l0_2.length c0_2) := (blk_cell BK678.out 2).trans rfl; have hfz26_0 := blk_frozen BK678.out 0; have hfz26_1 := blk_frozen BK678.out 1; have hfz26_2 := blk_frozen BK678.out 2) | (go_at_call 20; (with_reducible refine (codewrightref05_Degree.calls k a0_0 a0_1 _ _ l0_2 _ _ l4 t680 _ ?side1 ?side2 ?side3 ?side4 A9.out).mono ?_); (case side1 => repeat ((exact (Kd.C_below HR0_2.out HB.out)))); (case side2 => exact HC0_2.out); (case side3 => repeat ((exact (Kd.C_below HR4.out HB.out)))); (case side4 => exact HC4.out); rintro e w27 ⟨rfl, hb⟩; have n0_ := Aside0.mk (blk_below (g := gb678) (o := .cells #[.int .i64 a0_0, .int .i64 a0_1, .slice A0_2 l0_2.length c0_2] 24 (0, 0)) BK678.out hb); have n1_ := Aside0.mk (below_step HB.out hb); clear BK678; clear HB; have BK678 := n0_; have HB := n1_; clear n0_ n1_; ((clear hb)); (skip); (skip); (skip); have hcz28_0 : w27.cell? ⟨gb678, 0, none⟩ = some (.int .i64 a0_0) := (blk_cell BK678.out 0).trans rfl; have hcz28_1 : w27.cell? ⟨gb678, 1, none⟩ = some (.int .i64 a0_1) := (blk_cell BK678.out 1).trans rfl; have hcz28_2 : w27.cell? ⟨gb678, 2, none⟩ = some (.slice A0_2 l0_2.length c0_2) := (blk_cell BK678.out 2).trans rfl; have hfz28_0 := blk_frozen BK678.out 0; have hfz28_1 := blk_frozen BK678.out 1; have hfz28_2 := blk_frozen BK678.out 2) | (go_at_call 20; (with_reducible refine (codewrightref05_Degree.calls k a0_0 a0_1 _ _ l0_2 _ _ l5 t681 _ ?side1 ?side2 ?side3 ?side4 A11.out).mono ?_); (case side1 => repeat ((exact (Kd.C_below HR0_2.out HB.out)))); (case side2 => exact HC0_2.out); (case side3 => repeat ((exact (Kd.C_below HR5.out HB.out)))); (case side4 => exact HC5.out); rintro e w29 ⟨rfl, hb⟩; have n0_ := Aside0.mk (blk_below (g := gb678) (o := .cells #[.int .i64 a0_0, .int .i64 a0_1, .slice A0_2 l0_2.length c0_2] 24 (0, 0)) BK678.out hb); have n1_ := Aside0.mk (below_step HB.out hb); clear BK678; clear HB; have BK678 := n0_; have HB := n1_; clear n0_ n1_; ((clear hb)); (skip); (skip); (skip)))
    go_ret
    exact ⟨by rfl, by exact HB.out⟩
  ·rw [if_neg c10] at H
   have c10b0 : decide ((wrap64 (2 * t680)) ≤ (wrap64 (a2 - a3))) = false := decide_eq_false c10
   clear c10
   obtain rfl := Option.some.inj H
   go_enter Try.func26, Try.ntmps26
   go_wp2_with (first | ((with_reducible refine gate_dst (N := 6) rfl ?_); refine box_event ?hg (N := 6) ?hd (cs := #[.int .i64 a0_0, .int .i64 a0_1, .slice A0_2 l0_2.length c0_2]) (t := 24) ?hr ?_; (case hd => rfl); (case hg => rfl); (case hr => (go_simp; done)); intro gb678 hg w30 hbox hb; have n0_ := Aside0.mk (below_step HB.out hb); have n1_ := Aside0.mk (hbox); have n2_ := Aside0.mk ((by rw [hg]; exact (below_size HB.out) : w.heap.size ≤ gb678)); have n3_ := Aside0.mk ((by rw [hg]; exact (below_size HB.out) : w.heap.size ≤ gb678)); clear HB; have HB := n0_; have BK678 := n1_; have GW678 := n2_; have GE678 := n3_; clear n0_ n1_ n2_ n3_; clear hb hbox hg; have hcz31_0 : w30.cell? ⟨gb678, 0, none⟩ = some (.int .i64 a0_0) := (blk_cell BK678.out 0).trans rfl; have hcz31_1 : w30.cell? ⟨gb678, 1, none⟩ = some (.int .i64 a0_1) := (blk_cell BK678.out 1).trans rfl; have hcz31_2 : w30.cell? ⟨gb678, 2, none⟩ = some (.slice A0_2 l0_2.length c0_2) := (blk_cell BK678.out 2).trans rfl; have hfz31_0 := blk_frozen BK678.out 0; have hfz31_1 := blk_frozen BK678.out 1; have hfz31_2 := blk_frozen BK678.out 2) | ((with_reducible refine gate_callee (f := 36) rfl ?_); refine goesL_ (some 18) rfl rfl Try.func36 (by kernel_rfl) rfl #[.agg #[.int .i64 a0_0, .int .i64 a0_1, .slice A0_2 l0_2.length c0_2], .slice A1 l1.length c1, .int .i64 a2, .slice A4 l4.length c4, .slice A5 l5.length c5] rfl (by ((simp only [List.map_toArray, List.map_cons, List.map_nil])); (rfl)) ?_; (with_reducible refine (codewrightref38_Holds.calls k a0_0 a0_1 _ _ l0_2 _ _ l1 a2 _ _ l4 _ _ l5 true _ ?side1 ?side2 ?side3 ?side4 ?side5 ?side6 ?side7 ?side8 A7.out).mono ?_); (case side1 => repeat ((exact (Kd.C_below HR0_2.out HB.out)))); (case side2 => exact HC0_2.out); (case side3 => repeat ((exact (Kd.C_below HR1.out HB.out)))); (case side4 => exact HC1.out); (case side5 => repeat ((exact (Kd.C_below HR4.out HB.out)))); (case side6 => exact HC4.out); (case side7 => repeat ((exact (Kd.C_below HR5.out HB.out)))); (case side8 => exact HC5.out); rintro e w32 ⟨rfl, hb⟩; refine ⟨_, rfl, ?_⟩; have n0_ := Aside0.mk (blk_below (g := gb678) (o := .cells #[.int .i64 a0_0, .int .i64 a0_1, .slice A0_2 l0_2.length c0_2] 24 (0, 0)) BK678.out hb); have n1_ := Aside0.mk (below_step HB.out hb); clear BK678; clear HB; have BK678 := n0_; have HB := n1_; clear n0_ n1_; ((clear hb)); (skip); (skip); (skip); have hcz33_0 : w32.cell? ⟨gb678, 0, none⟩ = some (.int .i64 a0_0) := (blk_cell BK678.out 0).trans rfl; have hcz33_1 : w32.cell? ⟨gb678, 1, none⟩ = some (.int .i64 a0_1) := (blk_cell BK678.out 1).trans rfl; have hcz33_2 : w32.cell? ⟨gb678, 2, none⟩ = some (.slice A0_2 l0_2.length c0_2) := (blk_cell BK678.out 2).trans rfl; have hfz33_0 := blk_frozen BK678.out 0; have hfz33_1 := blk_frozen BK678.out 1; have hfz33_2 := blk_frozen BK678.out 2) | (go_at_call 20; (with_reducible refine (codewrightref05_Degree.calls k a0_0 a0_1 _ _ l0_2 _ _ l4 t680 _ ?side1 ?side2 ?side3 ?side4 A9.out).mono ?_); (case side1 => repeat ((exact (Kd.C_below HR0_2.out HB.out)))); (case side2 => exact HC0_2.out); (case side3 => repeat ((exact (Kd.C_below HR4.out HB.out)))); (case side4 => exact HC4.out); rintro e w34 ⟨rfl, hb⟩; have n0_ := Aside0.mk (blk_below (g := gb678) (o := .cells #[.int .i64 a0_0, .int .i64 a0_1, .slice A0_2 l0_2.length c0_2] 24 (0, 0)) BK678.out hb); have n1_ := Aside0.mk (below_step HB.out hb); clear BK678; clear HB; have BK678 := n0_; have HB := n1_; clear n0_ n1_; ((clear hb)); (skip); (skip); (skip)))
   go_ret
   exact ⟨by rfl, by exact HB.out⟩
 ·replace c8 := Bool.eq_false_iff.mpr c8
  subst c8
  have H1 : (some false) = some r := by rw [if_neg (show ¬ (false = true) by decide)] at H; exact H
  clear H
  have H := H1
  clear H1
  obtain rfl := Option.some.inj H
  go_enter Try.func26, Try.ntmps26
  go_wp2_with (first | ((with_reducible refine gate_dst (N := 6) rfl ?_); refine box_event ?hg (N := 6) ?hd (cs := #[.int .i64 a0_0, .int .i64 a0_1, .slice A0_2 l0_2.length c0_2]) (t := 24) ?hr ?_; (case hd => rfl); (case hg => rfl); (case hr => (go_simp; done)); intro gb678 hg w35 hbox hb; have n0_ := Aside0.mk (below_step HB.out hb); have n1_ := Aside0.mk (hbox); have n2_ := Aside0.mk ((by rw [hg]; exact (below_size HB.out) : w.heap.size ≤ gb678)); have n3_ := Aside0.mk ((by rw [hg]; exact (below_size HB.out) : w.heap.size ≤ gb678)); clear HB; have HB := n0_; have BK678 := n1_; have GW678 := n2_; have GE678 := n3_; clear n0_ n1_ n2_ n3_; clear hb hbox hg; have hcz36_0 : w35.cell? ⟨gb678, 0, none⟩ = some (.int .i64 a0_0) := (blk_cell BK678.out 0).trans rfl; have hcz36_1 : w35.cell? ⟨gb678, 1, none⟩ = some (.int .i64 a0_1) := (blk_cell BK678.out 1).trans rfl; have hcz36_2 : w35.cell? ⟨gb678, 2, none⟩ = some (.slice A0_2 l0_2.length c0_2) := (blk_cell BK678.out 2).trans rfl; have hfz36_0 := blk_frozen BK678.out 0; have hfz36_1 := blk_frozen BK678.out 1; have hfz36_2 := blk_frozen BK678.out 2) | ((with_reducible refine gate_callee (f := 36) rfl ?_); refine goesL_ (some 18) rfl rfl Try.func36 (by kernel_rfl) rfl #[.agg #[.int .i64 a0_0, .int .i64 a0_1, .slice A0_2 l0_2.length c0_2], .slice A1 l1.length c1, .int .i64 a2, .slice A4 l4.length c4, .slice A5 l5.length c5] rfl (by ((simp only [List.map_toArray, List.map_cons, List.map_nil])); (rfl)) ?_; (with_reducible refine (codewrightref38_Holds.calls k a0_0 a0_1 _ _ l0_2 _ _ l1 a2 _ _ l4 _ _ l5 false _ ?side1 ?side2 ?side3 ?side4 ?side5 ?side6 ?side7 ?side8 A7.out).mono ?_); (case side1 => repeat ((exact (Kd.C_below HR0_2.out HB.out)))); (case side2 => exact HC0_2.out); (case side3 => repeat ((exact (Kd.C_below HR1.out HB.out)))); (case side4 => exact HC1.out); (case side5 => repeat ((exact (Kd.C_below HR4.out HB.out)))); (case side6 => exact HC4.out); (case side7 => repeat ((exact (Kd.C_below HR5.out HB.out)))); (case side8 => exact HC5.out); rintro e w37 ⟨rfl, hb⟩; refine ⟨_, rfl, ?_⟩; have n0_ := Aside0.mk (blk_below (g := gb678) (o := .cells #[.int .i64 a0_0, .int .i64 a0_1, .slice A0_2 l0_2.length c0_2] 24 (0, 0)) BK678.out hb); have n1_ := Aside0.mk (below_step HB.out hb); clear BK678; clear HB; have BK678 := n0_; have HB := n1_; clear n0_ n1_; ((clear hb)); (skip); (skip); (skip)))
  go_ret
  exact ⟨by rfl, by exact HB.out⟩
def codewrightref04_Inv.l0 : Nat → Int → Int → Int → Int → List Int → Option (Int)
 | 0, _, _, _, _, _ => none
 | k + 1, x1, x5, x684000, x684001, x684002 => (codewrightref04_Order.f k x684000 x684001 x684002).bind fun t684 => (if x5 < t684 then ((codewrightref04_Mul.f k x684000 x684001 x684002 x1 x5).bind fun t685 => (if t685 = 1 then (some x5) else (codewrightref04_Inv.l0 k x1 (wrap64 (x5 + 1)) x684000 x684001 x684002))) else (some 0))
def codewrightref04_Inv.f (k : Nat) (a0_0 : Int) (a0_1 : Int) (l0_2 : List Int) (a1 : Int) : Option (Int) := codewrightref04_Inv.l0 k a1 1 a0_0 a0_1 l0_2
set_option maxHeartbeats 8000000 in
set_option maxRecDepth 100000 in
theorem codewrightref04_Inv.calls (k : Nat) (a0_0 : Int) (a0_1 : Int) (A0_2 : Option Addr) (c0_2 : Nat) (l0_2 : List Int) (a1 : Int) (r : Int) (w : World) (hr0_2 : Kd.C (Kd.int .i64) w A0_2 l0_2.length l0_2) (hc0_2 : l0_2.length ≤ c0_2) (h : codewrightref04_Inv.f k a0_0 a0_1 l0_2 a1 = some r) :
  Calls Try.prog 64 #[.agg #[.int .i64 a0_0, .int .i64 a0_1, .slice A0_2 l0_2.length c0_2], .int .i64 a1] w fun e w' => e = .returned (.int .i64 r) ∧ Below w.heap.size w w' := by
 have hu24 := Try.underlying24
 have HR0_2 := Aside0.mk hr0_2
 have HC0_2 := Aside0.mk hc0_2
 clear hr0_2 hc0_2
 have HB := Aside0.mk (Below.refl w.heap.size w)
 have H : (codewrightref04_Inv.l0 k a1 1 a0_0 a0_1 l0_2) = some r := h
 clear h
 have H' := Aside0.mk H
 clear H
 go_enter Try.func64, Try.ntmps64
 go_wp2_with (((with_reducible refine gate_dst (N := 2) rfl ?_); refine box_event ?hg (N := 2) ?hd (cs := #[.int .i64 a0_0, .int .i64 a0_1, .slice A0_2 l0_2.length c0_2]) (t := 24) ?hr ?_; (case hd => rfl); (case hg => rfl); (case hr => (go_simp; done)); intro gb683 hg w3 hbox hb; have n0_ := Aside0.mk (below_step HB.out hb); have n1_ := Aside0.mk (hbox); have n2_ := Aside0.mk ((by rw [hg]; exact (below_size HB.out) : w.heap.size ≤ gb683)); have n3_ := Aside0.mk ((by rw [hg]; exact (below_size HB.out) : w.heap.size ≤ gb683)); clear HB; have HB := n0_; have BK683 := n1_; have GW683 := n2_; have GE683 := n3_; clear n0_ n1_ n2_ n3_; clear hb hbox hg))
 go_loopg [5] k (fun kq v5 w' => ∃ (x5_1 : Int), v5 = .int .i64 x5_1 ∧ Aside0 (codewrightref04_Inv.l0 kq a1 x5_1 a0_0 a0_1 l0_2 = some r) ∧ Aside0 (kq ≤ k) ∧ Aside0 (w'.heap[gb683]? = some (.cells #[.int .i64 a0_0, .int .i64 a0_1, (.slice A0_2 l0_2.length c0_2)] 24 (0, 0))) ∧ Aside0 (Below w.heap.size w w'))
 case atStart => exact ⟨(1), (by rfl), H', ⟨Nat.le_refl _⟩, ⟨BK683.out⟩, ⟨HB.out⟩⟩
 case round =>
  clear H'
  obtain ⟨x5_1, rfl, HA, HK1, BK683, HB⟩ := hrel
  cases gk with
  | zero => exact absurd HA.out (by simp [codewrightref04_Inv.l0])
  | succ k1 =>
   have H := HA.out
   clear HA
   simp only [codewrightref04_Inv.l0] at H
   obtain ⟨t684, A40, H⟩ := Option.bind_eq_some_iff.mp H
   replace H : (if x5_1 < t684 then ((codewrightref04_Mul.f k1 a0_0 a0_1 l0_2 a1 x5_1).bind fun t685 => (if t685 = 1 then (some x5_1) else (codewrightref04_Inv.l0 k1 a1 (wrap64 (x5_1 + 1)) a0_0 a0_1 l0_2))) else (some 0)) = some r := H
   have A4 := Aside0.mk A40
   clear A40
   by_cases c5 : x5_1 < t684
   ·rw [if_pos c5] at H
    have c5b0 : decide (x5_1 < t684) = true := decide_eq_true c5
    clear c5
    obtain ⟨t685, A60, H⟩ := Option.bind_eq_some_iff.mp H
    replace H : (if t685 = 1 then (some x5_1) else (codewrightref04_Inv.l0 k1 a1 (wrap64 (x5_1 + 1)) a0_0 a0_1 l0_2)) = some r := H
    have A6 := Aside0.mk A60
    clear A60
    by_cases c7 : t685 = 1
    ·rw [if_pos c7] at H
     have c7b0 : (t685 == 1) = true := beq_iff_eq.mpr c7
     have c7b1 : (t685 != 1) = false := bne_eq_false_iff_eq.mpr c7
     clear c7
     obtain rfl := Option.some.inj H
     have hcz8_0 : wr.cell? ⟨gb683, 0, none⟩ = some (.int .i64 a0_0) := (blk_cell BK683.out 0).trans rfl
     have hcz8_1 : wr.cell? ⟨gb683, 1, none⟩ = some (.int .i64 a0_1) := (blk_cell BK683.out 1).trans rfl
     have hcz8_2 : wr.cell? ⟨gb683, 2, none⟩ = some (.slice A0_2 l0_2.length c0_2) := (blk_cell BK683.out 2).trans rfl
     have hfz8_0 := blk_frozen BK683.out 0
     have hfz8_1 := blk_frozen BK683.out 1
     have hfz8_2 := blk_frozen BK683.out 2
     go_wp2_with (first | ((with_reducible refine gate_callee (f := 71) rfl ?_); refine goesL_ (some 8) rfl rfl Try.func71 (by kernel_rfl) rfl #[.agg #[.int .i64 a0_0, .int .i64 a0_1, .slice A0_2 l0_2.length c0_2]] rfl (by ((simp only [List.map_toArray, List.map_cons, List.map_nil])); (rfl)) ?_; (with_reducible refine (codewrightref04_Order.calls k1 a0_0 a0_1 _ _ l0_2 t684 _ ?side1 ?side2 A4.out).mono ?_); (case side1 => repeat ((exact (Kd.C_below HR0_2.out HB.out)))); (case side2 => exact HC0_2.out); rintro e w9 ⟨rfl, hb⟩; refine ⟨_, rfl, ?_⟩; have n0_ := Aside0.mk (blk_below (g := gb683) (o := .cells #[.int .i64 a0_0, .int .i64 a0_1, .slice A0_2 l0_2.length c0_2] 24 (0, 0)) BK683.out hb); have n1_ := Aside0.mk (below_step HB.out hb); clear BK683; clear HB; have BK683 := n0_; have HB := n1_; clear n0_ n1_; ((clear hb)); (skip); (skip); (skip); have hcz10_0 : w9.cell? ⟨gb683, 0, none⟩ = some (.int .i64 a0_0) := (blk_cell BK683.out 0).trans rfl; have hcz10_1 : w9.cell? ⟨gb683, 1, none⟩ = some (.int .i64 a0_1) := (blk_cell BK683.out 1).trans rfl; have hcz10_2 : w9.cell? ⟨gb683, 2, none⟩ = some (.slice A0_2 l0_2.length c0_2) := (blk_cell BK683.out 2).trans rfl; have hfz10_0 := blk_frozen BK683.out 0; have hfz10_1 := blk_frozen BK683.out 1; have hfz10_2 := blk_frozen BK683.out 2) | ((with_reducible refine gate_callee (f := 38) rfl ?_); refine goesL_ (some 15) rfl rfl Try.func38 (by kernel_rfl) rfl #[.agg #[.int .i64 a0_0, .int .i64 a0_1, .slice A0_2 l0_2.length c0_2], .int .i64 a1, .int .i64 x5_1] rfl (by ((simp only [List.map_toArray, List.map_cons, List.map_nil])); (rfl)) ?_; (with_reducible refine (codewrightref04_Mul.calls k1 a0_0 a0_1 _ _ l0_2 a1 x5_1 t685 _ ?side1 ?side2 A6.out).mono ?_); (case side1 => repeat ((exact (Kd.C_below HR0_2.out HB.out)))); (case side2 => exact HC0_2.out); rintro e w11 ⟨rfl, hb⟩; refine ⟨_, rfl, ?_⟩; have n0_ := Aside0.mk (blk_below (g := gb683) (o := .cells #[.int .i64 a0_0, .int .i64 a0_1, .slice A0_2 l0_2.length c0_2] 24 (0, 0)) BK683.out hb); have n1_ := Aside0.mk (below_step HB.out hb); clear BK683; clear HB; have BK683 := n0_; have HB := n1_; clear n0_ n1_; ((clear hb)); (skip); (skip); (skip)))
     go_ret
     exact ⟨by rfl, by exact HB.out⟩
    ·rw [if_neg c7] at H
     have c7b0 : (t685 == 1) = false := beq_eq_false_iff_ne.mpr c7
     have c7b1 : (t685 != 1) = true := bne_iff_ne.mpr c7
     have H' := Aside0.mk H
     clear H
     have hcz12_0 : wr.cell? ⟨gb683, 0, none⟩ = some (.int .i64 a0_0) := (blk_cell BK683.out 0).trans rfl
     have hcz12_1 : wr.cell? ⟨gb683, 1, none⟩ = some (.int .i64 a0_1) := (blk_cell BK683.out 1).trans rfl
     have hcz12_2 : wr.cell? ⟨gb683, 2, none⟩ = some (.slice A0_2 l0_2.length c0_2) := (blk_cell BK683.out 2).trans rfl
     have hfz12_0 := blk_frozen BK683.out 0
     have hfz12_1 := blk_frozen BK683.out 1
     have hfz12_2 := blk_frozen BK683.out 2
     go_wp2_with (first | ((with_reducible refine gate_callee (f := 71) rfl ?_); refine goesL_ (some 8) rfl rfl Try.func71 (by kernel_rfl) rfl #[.agg #[.int .i64 a0_0, .int .i64 a0_1, .slice A0_2 l0_2.length c0_2]] rfl (by ((simp only [List.map_toArray, List.map_cons, List.map_nil])); (rfl)) ?_; (with_reducible refine (codewrightref04_Order.calls k1 a0_0 a0_1 _ _ l0_2 t684 _ ?side1 ?side2 A4.out).mono ?_); (case side1 => repeat ((exact (Kd.C_below HR0_2.out HB.out)))); (case side2 => exact HC0_2.out); rintro e w13 ⟨rfl, hb⟩; refine ⟨_, rfl, ?_⟩; have n0_ := Aside0.mk (blk_below (g := gb683) (o := .cells #[.int .i64 a0_0, .int .i64 a0_1, .slice A0_2 l0_2.length c0_2] 24 (0, 0)) BK683.out hb); have n1_ := Aside0.mk (below_step HB.out hb); clear BK683; clear HB; have BK683 := n0_; have HB := n1_; clear n0_ n1_; ((clear hb)); (skip); (skip); (skip); have hcz14_0 : w13.cell? ⟨gb683, 0, none⟩ = some (.int .i64 a0_0) := (blk_cell BK683.out 0).trans rfl; have hcz14_1 : w13.cell? ⟨gb683, 1, none⟩ = some (.int .i64 a0_1) := (blk_cell BK683.out 1).trans rfl; have hcz14_2 : w13.cell? ⟨gb683, 2, none⟩ = some (.slice A0_2 l0_2.length c0_2) := (blk_cell BK683.out 2).trans rfl; have hfz14_0 := blk_frozen BK683.out 0; have hfz14_1 := blk_frozen BK683.out 1; have hfz14_2 := blk_frozen BK683.out 2) | ((with_reducible refine gate_callee (f := 38) rfl ?_); refine goesL_ (some 15) rfl rfl Try.func38 (by kernel_rfl) rfl #[.agg #[.int .i64 a0_0, .int .i64 a0_1, .slice A0_2 l0_2.length c0_2], .int .i64 a1, .int .i64 x5_1] rfl (by ((simp only [List.map_toArray, List.map_cons, List.map_nil])); (rfl)) ?_; (with_reducible refine (codewrightref04_Mul.calls k1 a0_0 a0_1 _ _ l0_2 a1 x5_1 t685 _ ?side1 ?side2 A6.out).mono ?_); (case side1 => repeat ((exact (Kd.C_below HR0_2.out HB.out)))); (case side2 => exact HC0_2.out); rintro e w15 ⟨rfl, hb⟩; refine ⟨_, rfl, ?_⟩; have n0_ := Aside0.mk (blk_below (g := gb683) (o := .cells #[.int .i64 a0_0, .int .i64 a0_1, .slice A0_2 l0_2.length c0_2] 24 (0, 0)) BK683.out hb); have n1_ := Aside0.mk (below_step HB.out hb); clear BK683; clear HB; have BK683 := n0_; have HB := n1_; clear n0_ n1_; ((clear hb)); (skip); (skip); (skip)))
     go_roundg k1
     case measure => have := HK1.out; omega
     case rel => exact ⟨(wrap64 (x5_1 + 1)), (by rfl), H', ⟨by have := HK1.out; omega⟩, ⟨BK683.out⟩, ⟨HB.out⟩⟩
   ·rw [if_neg c5] at H
    have c5b0 : decide (x5_1 < t684) = false := decide_eq_false c5
    clear c5
    obtain rfl := Option.some.inj H
    have hcz16_0 : wr.cell? ⟨gb683, 0, none⟩ = some (.int .i64 a0_0) := (blk_cell BK683.out 0).trans rfl
    have hcz16_1 : wr.cell? ⟨gb683, 1, none⟩ = some (.int .i64 a0_1) := (blk_cell BK683.out 1).trans rfl
    have hcz16_2 : wr.cell? ⟨gb683, 2, none⟩ = some (.slice A0_2 l0_2.length c0_2) := (blk_cell BK683.out 2).trans rfl
    have hfz16_0 := blk_frozen BK683.out 0
    have hfz16_1 := blk_frozen BK683.out 1
    have hfz16_2 := blk_frozen BK683.out 2
    go_wp2_with (((with_reducible refine gate_callee (f := 71) rfl ?_); refine goesL_ (some 8) rfl rfl Try.func71 (by kernel_rfl) rfl #[.agg #[.int .i64 a0_0, .int .i64 a0_1, .slice A0_2 l0_2.length c0_2]] rfl (by ((simp only [List.map_toArray, List.map_cons, List.map_nil])); (rfl)) ?_; (with_reducible refine (codewrightref04_Order.calls k1 a0_0 a0_1 _ _ l0_2 t684 _ ?side1 ?side2 A4.out).mono ?_); (case side1 => repeat ((exact (Kd.C_below HR0_2.out HB.out)))); (case side2 => exact HC0_2.out); rintro e w17 ⟨rfl, hb⟩; refine ⟨_, rfl, ?_⟩; have n0_ := Aside0.mk (blk_below (g := gb683) (o := .cells #[.int .i64 a0_0, .int .i64 a0_1, .slice A0_2 l0_2.length c0_2] 24 (0, 0)) BK683.out hb); have n1_ := Aside0.mk (below_step HB.out hb); clear BK683; clear HB; have BK683 := n0_; have HB := n1_; clear n0_ n1_; ((clear hb)); (skip); (skip); (skip)))
    go_ret
    exact ⟨by rfl, by exact HB.out⟩
end Go.Proofs.Ytkdakjlopheefaa.PA
end
section
namespace Go.Proofs.Ytkdakjlopheefaa.PA
open Go.RowKit Go.Proofs.YtkdakjlopheefaaW.PrintWords Go.Proofs.YtkdakjlopheefaaW.PrintLast Go.Proofs.YtkdakjlopheefaaW.PrintMore
attribute [local go_sem] max2_int min2_int max_two min_two max_three min_three max_four min_four
set_option linter.unusedVariables false
set_option linter.unusedSimpArgs false
def codewrightref04_Neg.l0 : Nat → List Int → Int → Int → Int → List Int → Option (Int)
 | 0, _, _, _, _, _ => none
 | k + 1, x5, x6, x687000, x687001, x687002 => if x6 < (x5.length : Int) then (if 0 ≤ x6 then (if x687000 = 0 then (none) else (codewrightref04_Neg.l0 k (x5.set (x6 : Int).toNat (Int.tmod (wrap64 (x687000 - (rd x5 x6))) x687000)) (wrap64 (x6 + 1)) x687000 x687001 x687002)) else (none)) else ((codewrightref04_Value.f k x687000 x687001 x687002 x5).bind fun t692 => (some t692))
def codewrightref04_Neg.f (k : Nat) (a0_0 : Int) (a0_1 : Int) (l0_2 : List Int) (a1 : Int) : Option (Int) := (codewrightref04_Digits.f k a0_0 a0_1 l0_2 a1).bind fun t687 => (codewrightref04_Neg.l0 k t687 0 a0_0 a0_1 l0_2)
def codewrightref04_Neg.T5 : Bool × List (List Nat × List Nat) := (true, [([], []), ([], []), ([], []), ([2], [2]), ([], []), ([], []), ([4, 5], [4, 5]), ([6], [6]), ([3, 7], [3, 7]), ([], []), ([9], [9]), ([8, 10], [8, 10]), ([0, 1, 0, 1, 2, 3, 4, 5, 6, 7, 8, 9, 10, 11], [0, 1]), ([12, 11, 0, 1, 2, 3, 4, 5, 6, 7, 8, 9, 10, 11], [11, 12])])
def codewrightref04_Neg.B5 : List Nat := [0, 0, 0, 4, 0, 0, 48, 112, 252, 0, 512, 2044, 4095, 8191]
theorem codewrightref04_Neg.tab5 : rtab .any (opsOf Try.f59 5) = codewrightref04_Neg.T5 := by kernel_rfl
theorem codewrightref04_Neg.bits5 : waitsOk codewrightref04_Neg.T5.2 codewrightref04_Neg.B5 = true := by kernel_rfl
set_option maxHeartbeats 8000000 in
set_option maxRecDepth 100000 in
theorem codewrightref04_Neg.calls (k : Nat) (a0_0 : Int) (a0_1 : Int) (A0_2 : Option Addr) (c0_2 : Nat) (l0_2 : List Int) (a1 : Int) (r : Int) (w : World) (hr0_2 : Kd.C (Kd.int .i64) w A0_2 l0_2.length l0_2) (hc0_2 : l0_2.length ≤ c0_2) (h : codewrightref04_Neg.f k a0_0 a0_1 l0_2 a1 = some r) :
  Calls Try.prog 59 #[.agg #[.int .i64 a0_0, .int .i64 a0_1, .slice A0_2 l0_2.length c0_2], .int .i64 a1] w fun e w' => e = .returned (.int .i64 r) ∧ Below w.heap.size w w' := by
 have hu24 := Try.underlying24
 have HR0_2 := Aside0.mk hr0_2
 have HC0_2 := Aside0.mk hc0_2
 clear hr0_2 hc0_2
 have HB := Aside0.mk (Below.refl w.heap.size w)
 have H : ((codewrightref04_Digits.f k a0_0 a0_1 l0_2 a1).bind fun t687 => (codewrightref04_Neg.l0 k t687 0 a0_0 a0_1 l0_2)) = some r := h
 clear h
 obtain ⟨t687, A30, H⟩ := Option.bind_eq_some_iff.mp H
 replace H : (codewrightref04_Neg.l0 k t687 0 a0_0 a0_1 l0_2) = some r := H
 have A3 := Aside0.mk A30
 clear A30
 have H' := Aside0.mk H
 clear H
 go_enter Try.func59, Try.ntmps59
 go_wp2_with (first | ((with_reducible refine gate_dst (N := 2) rfl ?_); refine box_event ?hg (N := 2) ?hd (cs := #[.int .i64 a0_0, .int .i64 a0_1, .slice A0_2 l0_2.length c0_2]) (t := 24) ?hr ?_; (case hd => rfl); (case hg => rfl); (case hr => (go_simp; done)); intro gb686 hg w4 hbox hb; have n0_ := Aside0.mk (below_step HB.out hb); have n1_ := Aside0.mk (hbox); have n2_ := Aside0.mk ((by rw [hg]; exact (below_size HB.out) : w.heap.size ≤ gb686)); have n3_ := Aside0.mk ((by rw [hg]; exact (below_size HB.out) : w.heap.size ≤ gb686)); clear HB; have HB := n0_; have BK686 := n1_; have GW686 := n2_; have GE686 := n3_; clear n0_ n1_ n2_ n3_; clear hb hbox hg; have hcz5_0 : w4.cell? ⟨gb686, 0, none⟩ = some (.int .i64 a0_0) := (blk_cell BK686.out 0).trans rfl; have hcz5_1 : w4.cell? ⟨gb686, 1, none⟩ = some (.int .i64 a0_1) := (blk_cell BK686.out 1).trans rfl; have hcz5_2 : w4.cell? ⟨gb686, 2, none⟩ = some (.slice A0_2 l0_2.length c0_2) := (blk_cell BK686.out 2).trans rfl; have hfz5_0 := blk_frozen BK686.out 0; have hfz5_1 := blk_frozen BK686.out 1; have hfz5_2 := blk_frozen BK686.out 2) | ((with_reducible refine gate_callee (f := 69) rfl ?_); refine goesL_ (some 9) rfl rfl Try.func69 (by kernel_rfl) rfl #[.agg #[.int .i64 a0_0, .int .i64 a0_1, .slice A0_2 l0_2.length c0_2], .int .i64 a1] rfl (by ((simp only [List.map_toArray, List.map_cons, List.map_nil])); (rfl)) ?_; (with_reducible refine (codewrightref04_Digits.calls k a0_0 a0_1 _ _ l0_2 a1 t687 _ ?side1 ?side2 A3.out).mono ?_); (case side1 => repeat ((exact (Kd.C_below HR0_2.out HB.out)))); (case side2 => exact HC0_2.out); rintro e w6 ⟨v688, rfl, ho0, hb⟩; refine ⟨_, rfl, ?_⟩; have n0_ := Aside0.mk (Kd.R_lower ho0 (below_size HB.out)); have n1_ := Aside0.mk (blk_below (g := gb686) (o := .cells #[.int .i64 a0_0, .int .i64 a0_1, .slice A0_2 l0_2.length c0_2] 24 (0, 0)) BK686.out hb); have n2_ := Aside0.mk (below_step HB.out hb); clear BK686; clear HB; have HO689 := n0_; have BK686 := n1_; have HB := n2_; clear n0_ n1_ n2_; ((clear hb)); (skip); (skip); (skip); ((clear ho0))))
 go_loopg [6] k (fun kq v6 w' => ∃ (x5_1 : List Int) (x6_1 : Int), v6 = .int .i64 x6_1 ∧ Aside0 (codewrightref04_Neg.l0 kq x5_1 x6_1 a0_0 a0_1 l0_2 = some r) ∧ Aside0 (kq ≤ k) ∧ Aside0 (Kd.R (Kd.int .i64) 3 w' w.heap.size (fun _ => True) v688 x5_1) ∧ Aside0 (w'.heap[gb686]? = some (.cells #[.int .i64 a0_0, .int .i64 a0_1, (.slice A0_2 l0_2.length c0_2)] 24 (0, 0))) ∧ Aside0 (Below w.heap.size w w'))
 case atStart => exact ⟨(t687), (0), (by rfl), H', ⟨Nat.le_refl _⟩, ⟨HO689.out⟩, ⟨BK686.out⟩, ⟨HB.out⟩⟩
 case round =>
  clear H' hcz5_0 hcz5_1 hcz5_2 hfz5_0 hfz5_1 hfz5_2
  obtain ⟨x5_1, x6_1, rfl, HA, HK1, HO_5, BK686, HB⟩ := hrel
  cases gk with
  | zero => exact absurd HA.out (by simp [codewrightref04_Neg.l0])
  | succ k1 =>
   have H := HA.out
   clear HA
   simp only [codewrightref04_Neg.l0] at H
   by_cases c7 : x6_1 < (x5_1.length : Int)
   ·rw [if_pos c7] at H
    have c7b0 : decide (x6_1 < (x5_1.length : Int)) = true := decide_eq_true c7
    clear c7
    by_cases c8 : 0 ≤ x6_1
    ·rw [if_pos c8] at H
     have c8b0 : decide (0 ≤ x6_1) = true := decide_eq_true c8
     clear c8
     by_cases c9 : a0_0 = 0
     ·rw [if_pos c9] at H
      exact absurd H (by simp)
     ·rw [if_neg c9] at H
      have c9b0 : (a0_0 == 0) = false := beq_eq_false_iff_ne.mpr c9
      have c9b1 : (a0_0 != 0) = true := bne_iff_ne.mpr c9
      obtain ⟨y691, hy691⟩ : ∃ y_ : List Int, y_ = (x5_1.set (x6_1 : Int).toNat (Int.tmod (wrap64 (a0_0 - (rd x5_1 x6_1))) a0_0)) := ⟨_, rfl⟩
      replace H : (codewrightref04_Neg.l0 k1 y691 (wrap64 (x6_1 + 1)) a0_0 a0_1 l0_2) = some r := by (rw [hy691]; with_reducible exact H)
      have Ny691 := Aside0.mk hy691
      clear hy691
      have H' := Aside0.mk H
      clear H
      obtain ⟨Ao11, co11, eo11⟩ := Kd.R_slice HO_5.out
      subst eo11
      (go_wp2)
      have n0_ := Aside0.mk (Kd.R_drew HO_5.out)
      have n1_ := Aside0.mk (blk_drew BK686.out)
      have n2_ := Aside0.mk (below_drew1 HB.out)
      clear HO_5 BK686 HB
      have HO_5 := n0_
      have BK686 := n1_
      have HB := n2_
      clear n0_ n1_ n2_
      have p690 : 0 ≤ (x6_1 : Int) := of_decide_eq_true (by (with_reducible assumption))
      have q690 : x6_1 < (x5_1.length : Int) := of_decide_eq_true (by (with_reducible assumption))
      obtain ⟨ad690, e690, hx690_0⟩ := Kd.at_int (Kd.R_reads' HO_5.out).2.2 x6_1 p690 q690
      cases e690
      replace p690 := eq_true p690
      replace q690 := eq_true q690
      have p10 : 0 ≤ (x6_1 : Int) := of_decide_eq_true (by (with_reducible assumption))
      have q10 : (x6_1 : Int) < ((x5_1.length : Int) : Int) := of_decide_eq_true (by (with_reducible assumption))
      obtain ⟨go10, co10, eo10, gb10, gl10, cl10, HG10⟩ := Kd.R_form HO_5.out (by omega)
      ((cases eo10))
      have GB10 := Aside0.mk gb10
      have GG10 := Aside0.mk HG10
      clear gb10 gl10 HG10
      ((simp only [add_plain] at hx690_0))
      obtain ⟨hx10_0, hf10_0⟩ := Kd.R_celln 0 HO_5.out (x6_1 : Int) p10 q10
      replace p10 := eq_true p10
      replace q10 := eq_true q10
      have HP13 := Kd.R_putn HO_5.out (x6_1 : Int) (Int.tmod (wrap64 (a0_0 - (rd x5_1 x6_1))) a0_0)
      rw [← Ny691.out] at HP13
      have HQ13 := Aside0.mk HP13
      clear HP13
      refine start_ (n := 14) (S := fun w' => w'.cell? ⟨gb686, 0, none⟩ = some (.int .i64 a0_0) ∧ w'.cell? ⟨gb686, 1, none⟩ = some (.int .i64 a0_1) ∧ w'.cell? ⟨gb686, 2, none⟩ = some (.slice A0_2 l0_2.length c0_2) ∧ w'.cell? ⟨go10, (x6_1).toNat, none⟩ = some (.int .i64 (rd x5_1 x6_1))) (ds := [13]) (bm 14 0) (by kernel_rfl) rfl rfl ⟨(blk_cell BK686.out 0).trans rfl, (blk_cell BK686.out 1).trans rfl, (blk_cell BK686.out 2).trans rfl, hx690_0⟩ (fun hHeld => ?_); refine with_tabW codewrightref04_Neg.tab5 codewrightref04_Neg.bits5 (fun HT_ HW_ => ?_)
      generalize wr.drew = w12 at HO_5 BK686 HB GG10 HQ13 hf10_0 hx10_0 hx690_0 hHeld ⊢
      refine pu_ 0 16 (bm 14 1) HT_ ?_
      refine pu_ 1 17 (bm 14 3) HT_ ?_
      refine pu_ 2 18 (bm 14 7) HT_ ?_
      refine pu_ 4 20 (bm 14 23) HT_ ?_
      refine pu_ 5 21 (bm 14 55) HT_ ?_
      refine pu_ 6 22 (bm 14 119) HT_ ?_
      refine pu_ 9 25 (bm 14 631) HT_ ?_
      refine take_ (i := 3) (N := some 19) (v := ?_) (a' := ?_) (bm 14 639) rfl rfl (take_ofW HT_.out HW_.out (by kernel_rfl)) (fun _ _ _ h => h) (Or.inl ⟨by rfl, ?_⟩) hHeld ?_ ?_;rotate_left;(rintro w' ⟨s0, s1, s2, s3⟩;go_simp;with_reducible rfl);rotate_left;(simp only [ps_];rfl)
      refine take_ (i := 7) (N := some 23) (v := ?_) (a' := ?_) (bm 14 767) rfl rfl (take_ofW HT_.out HW_.out (by kernel_rfl)) (fun _ _ _ h => h) (Or.inl ⟨by rfl, ?_⟩) hHeld ?_ ?_;rotate_left;(rintro w' ⟨s0, s1, s2, s3⟩;go_simp;with_reducible rfl);rotate_left;(simp only [ps_];rfl)
      refine pu_ 8 24 (bm 14 1023) HT_ ?_
      refine take_ (i := 10) (N := some 26) (v := ?_) (a' := ?_) (bm 14 2047) rfl rfl (take_ofW HT_.out HW_.out (by kernel_rfl)) (fun _ _ _ h => h) (Or.inl ⟨by rfl, ?_⟩) hHeld ?_ ?_;rotate_left;(rintro w' ⟨s0, s1, s2, s3⟩;go_simp;with_reducible rfl);rotate_left;(simp only [ps_];rfl)
      refine pu_ 11 27 (bm 14 4095) HT_ ?_
      refine pu_ 12 28 (bm 14 8191) HT_ ?_
      refine last_ (i := 13) (N := none) (bm 14 16383) rfl rfl (one_of HT_.out (by kernel_rfl)) (by decide) (fun K hK => ?_)
      refine skip_ (w1 := ?_) (by rfl) rfl ?_ ?_
      rotate_left
      ·go_simp
       rfl
      refine hK.out _ _ ?_
      clear hK K
      refine done_ (done_of HT_.out (by kernel_rfl)) ?_
      (go_wp2)
      go_roundg k1
      case measure => have := HK1.out; omega
      case rel => exact ⟨(y691), (wrap64 (x6_1 + 1)), (by rfl), H', ⟨by have := HK1.out; omega⟩, ⟨HQ13.out⟩, ⟨by (with_reducible repeat (fail)); refine blk_far ?_ (by have h_ := Kd.R_ne HO_5.out BK686.out (by decide); intro e_; exact h_ (by rw [e_]; rfl)) _; (with_reducible repeat (fail)); exact BK686.out⟩, ⟨by repeat ((with_reducible first | (exact HB.out) | (refine below_set ?_ GB10.out)))⟩⟩
    ·rw [if_neg c8] at H
     exact absurd H (by simp)
   ·rw [if_neg c7] at H
    have c7b0 : decide (x6_1 < (x5_1.length : Int)) = false := decide_eq_false c7
    clear c7
    obtain ⟨t692, A140, H⟩ := Option.bind_eq_some_iff.mp H
    replace H : (some t692) = some r := H
    have A14 := Aside0.mk A140
    clear A140
    obtain rfl := Option.some.inj H
    obtain ⟨Ao15, co15, eo15⟩ := Kd.R_slice HO_5.out
    subst eo15
    have hcz16_0 : wr.cell? ⟨gb686, 0, none⟩ = some (.int .i64 a0_0) := (blk_cell BK686.out 0).trans rfl
    have hcz16_1 : wr.cell? ⟨gb686, 1, none⟩ = some (.int .i64 a0_1) := (blk_cell BK686.out 1).trans rfl
    have hcz16_2 : wr.cell? ⟨gb686, 2, none⟩ = some (.slice A0_2 l0_2.length c0_2) := (blk_cell BK686.out 2).trans rfl
    have hfz16_0 := blk_frozen BK686.out 0
    have hfz16_1 := blk_frozen BK686.out 1
    have hfz16_2 := blk_frozen BK686.out 2
    go_wp2_with (((with_reducible refine gate_callee (f := 70) rfl ?_); refine goesL_ (some 31) rfl rfl Try.func70 (by kernel_rfl) rfl #[.agg #[.int .i64 a0_0, .int .i64 a0_1, .slice A0_2 l0_2.length c0_2], .slice Ao15 x5_1.length co15] rfl (by ((simp only [List.map_toArray, List.map_cons, List.map_nil])); (rfl)) ?_; (with_reducible refine (codewrightref04_Value.calls k1 a0_0 a0_1 _ _ l0_2 _ _ x5_1 t692 _ ?side1 ?side2 ?side3 ?side4 A14.out).mono ?_); (case side1 => repeat ((exact (Kd.C_below HR0_2.out HB.out)))); (case side2 => exact HC0_2.out); (case side3 => repeat ((exact (Kd.R_reads' HO_5.out).2.2))); (case side4 => exact (Kd.R_reads' HO_5.out).2.1); rintro e w17 ⟨rfl, hb⟩; refine ⟨_, rfl, ?_⟩; have n0_ := Aside0.mk (Kd.R_below HO_5.out hb); have n1_ := Aside0.mk (blk_below (g := gb686) (o := .cells #[.int .i64 a0_0, .int .i64 a0_1, .slice A0_2 l0_2.length c0_2] 24 (0, 0)) BK686.out hb); have n2_ := Aside0.mk (below_step HB.out hb); clear HO_5; clear BK686; clear HB; have HO_5 := n0_; have BK686 := n1_; have HB := n2_; clear n0_ n1_ n2_; ((clear hb)); (skip); (skip); (skip)))
    go_ret
    exact ⟨by rfl, by exact HB.out⟩
def codewrightref05_Scale.l0 : Nat → Int → List Int → List Int → Int → Int → Int → List Int → Option (List Int)
 | 0, _, _, _, _, _, _, _ => none
 | k + 1, x1, x2, x7, x8, x694000, x694001, x694002 => if x8 < (x2.length : Int) then (if 0 ≤ x8 then ((codewrightref04_Mul.f k x694000 x694001 x694002 x1 (rd x2 x8)).bind fun t698 => (if x8 < (x7.length : Int) then (codewrightref05_Scale.l0 k x1 x2 (x7.set (x8 : Int).toNat t698) (wrap64 (x8 + 1)) x694000 x694001 x694002) else (none))) else (none)) else ((codewrightref05_Canon.f k x694000 x694001 x694002 x7).bind fun t700 => (some t700))
def codewrightref05_Scale.f (k : Nat) (a0_0 : Int) (a0_1 : Int) (l0_2 : List Int) (a1 : Int) (l2 : List Int) : Option (List Int) := if 0 ≤ (l2.length : Int) then (if ((l2.length : Int) : Int).toNat ≤ 35184372088832 then (codewrightref05_Scale.l0 k a1 l2 (List.replicate ((l2.length : Int) : Int).toNat 0) 0 a0_0 a0_1 l0_2) else (none)) else (none)
def codewrightref05_Scale.T5 : Bool × List (List Nat × List Nat) := (true, [([], []), ([], []), ([], []), ([], []), ([], []), ([], []), ([4, 5], [4, 5]), ([6], [6]), ([2, 3, 7], [2, 3, 7]), ([0, 1, 0, 1, 2, 3, 4, 5, 6, 7, 8], [0, 1]), ([9, 8, 8, 0, 1, 2, 3, 4, 5, 6, 7, 8], [8, 9])])
def codewrightref05_Scale.B5 : List Nat := [0, 0, 0, 0, 0, 0, 48, 112, 252, 511, 1023]
theorem codewrightref05_Scale.tab5 : rtab .any (opsOf Try.f87 5) = codewrightref05_Scale.T5 := by kernel_rfl
theorem codewrightref05_Scale.bits5 : waitsOk codewrightref05_Scale.T5.2 codewrightref05_Scale.B5 = true := by kernel_rfl
set_option maxHeartbeats 8000000 in
set_option maxRecDepth 100000 in
theorem codewrightref05_Scale.calls (k : Nat) (a0_0 : Int) (a0_1 : Int) (A0_2 : Option Addr) (c0_2 : Nat) (l0_2 : List Int) (a1 : Int) (A2 : Option Addr) (c2 : Nat) (l2 : List Int) (r : List Int) (w : World) (hr0_2 : Kd.C (Kd.int .i64) w A0_2 l0_2.length l0_2) (hc0_2 : l0_2.length ≤ c0_2) (hr2 : Kd.C (Kd.int .i64) w A2 l2.length l2) (hc2 : l2.length ≤ c2) (h : codewrightref05_Scale.f k a0_0 a0_1 l0_2 a1 l2 = some r) :
  Calls Try.prog 87 #[.agg #[.int .i64 a0_0, .int .i64 a0_1, .slice A0_2 l0_2.length c0_2], .int .i64 a1, .slice A2 l2.length c2] w fun e w' => ∃ v0_ : Value, e = .returned (v0_) ∧ Kd.R (Kd.int .i64) 3 w' w.heap.size (fun _ => True) v0_ r ∧ Below w.heap.size w w' := by
 have hu24 := Try.underlying24
 have HR0_2 := Aside0.mk hr0_2
 have HC0_2 := Aside0.mk hc0_2
 clear hr0_2 hc0_2
 have HR2 := Aside0.mk hr2
 have HC2 := Aside0.mk hc2
 clear hr2 hc2
 have HB := Aside0.mk (Below.refl w.heap.size w)
 have H : (if 0 ≤ (l2.length : Int) then (if ((l2.length : Int) : Int).toNat ≤ 35184372088832 then (codewrightref05_Scale.l0 k a1 l2 (List.replicate ((l2.length : Int) : Int).toNat 0) 0 a0_0 a0_1 l0_2) else (none)) else (none)) = some r := h
 clear h
 by_cases c4 : 0 ≤ (l2.length : Int)
 ·rw [if_pos c4] at H
  have c4b0 := eq_true c4
  have c4b1 : decide (0 ≤ (l2.length : Int)) = true := decide_eq_true c4
  clear c4
  by_cases c5 : ((l2.length : Int) : Int).toNat ≤ 35184372088832
  ·rw [if_pos c5] at H
   have c5b0 := eq_true c5
   have c5b1 : decide (((l2.length : Int) : Int).toNat ≤ 35184372088832) = true := decide_eq_true c5
   clear c5
   obtain ⟨y694, hy694⟩ : ∃ y_ : List Int, y_ = (List.replicate ((l2.length : Int) : Int).toNat 0) := ⟨_, rfl⟩
   replace H : (codewrightref05_Scale.l0 k a1 l2 y694 0 a0_0 a0_1 l0_2) = some r := by (rw [hy694]; with_reducible exact H)
   have Ny694 := Aside0.mk hy694
   clear hy694
   have H' := Aside0.mk H
   clear H
   go_enter Try.func87, Try.ntmps87
   go_wp2_with (first | ((with_reducible refine gate_dst (N := 3) rfl ?_); refine box_event ?hg (N := 3) ?hd (cs := #[.int .i64 a0_0, .int .i64 a0_1, .slice A0_2 l0_2.length c0_2]) (t := 24) ?hr ?_; (case hd => rfl); (case hg => rfl); (case hr => (go_simp; done)); intro gb693 hg w6 hbox hb; have n0_ := Aside0.mk (below_step HB.out hb); have n1_ := Aside0.mk (hbox); have n2_ := Aside0.mk ((by rw [hg]; exact (below_size HB.out) : w.heap.size ≤ gb693)); have n3_ := Aside0.mk ((by rw [hg]; exact (below_size HB.out) : w.heap.size ≤ gb693)); clear HB; have HB := n0_; have BK693 := n1_; have GW693 := n2_; have GE693 := n3_; clear n0_ n1_ n2_ n3_; clear hb hbox hg) | ((with_reducible refine gate_dst (N := 11) rfl ?_); refine Kd.R_make (Kd.int .i64) _ 3 rfl (N := 11) rfl 22 _ _ rfl (l2.length : Int) rfl rfl Try.underlying22 (.int .i64 0) 8 info3 rfl (by decide) (by omega) 0 (ok := fun _ => True) (okp := fun _ => True) rfl (fun _ hk => hk) trivial (of_decide_eq_true (by (with_reducible assumption))) (Nat.le_trans (Nat.mul_le_mul_right _ (of_decide_eq_true (by (with_reducible assumption)) : (l2.length : Int).toNat ≤ 35184372088832)) (by omega)) (Below.refl _ _) (Nat.le_refl _) ?_; intro v695 w7 ho8 hb hg_ hnew_; clear hg_ hnew_; ((rw [← Ny694.out] at ho8)); have n0_ := Aside0.mk (Kd.R_lower ho8 (below_size HB.out)); have n1_ := Aside0.mk (blk_below (g := gb693) (o := .cells #[.int .i64 a0_0, .int .i64 a0_1, .slice A0_2 l0_2.length c0_2] 24 (0, 0)) BK693.out hb); have n2_ := Aside0.mk (below_step HB.out hb); clear BK693; clear HB; have HO696 := n0_; have BK693 := n1_; have HB := n2_; clear n0_ n1_ n2_; clear hb ho8))
   go_loopg [8] k (fun kq v8 w' => ∃ (x7_1 : List Int) (x8_1 : Int), v8 = .int .i64 x8_1 ∧ Aside0 (codewrightref05_Scale.l0 kq a1 l2 x7_1 x8_1 a0_0 a0_1 l0_2 = some r) ∧ Aside0 (kq ≤ k) ∧ Aside0 (Kd.R (Kd.int .i64) 3 w' w.heap.size (fun _ => True) v695 x7_1) ∧ Aside0 (w'.heap[gb693]? = some (.cells #[.int .i64 a0_0, .int .i64 a0_1, (.slice A0_2 l0_2.length c0_2)] 24 (0, 0))) ∧ Aside0 (Below w.heap.size w w'))
   case atStart => exact ⟨(y694), (0), (by rfl), H', ⟨Nat.le_refl _⟩, ⟨HO696.out⟩, ⟨BK693.out⟩, ⟨HB.out⟩⟩
   case round =>
    clear H' c4b0 c4b1 c5b0 c5b1
    obtain ⟨x7_1, x8_1, rfl, HA, HK1, HO_7, BK693, HB⟩ := hrel
    cases gk with
    | zero => exact absurd HA.out (by simp [codewrightref05_Scale.l0])
    | succ k1 =>
     have H := HA.out
     clear HA
     simp only [codewrightref05_Scale.l0] at H
     by_cases c9 : x8_1 < (l2.length : Int)
     ·rw [if_pos c9] at H
      have c9b0 : decide (x8_1 < (l2.length : Int)) = true := decide_eq_true c9
      clear c9
      by_cases c10 : 0 ≤ x8_1
      ·rw [if_pos c10] at H
       have c10b0 : decide (0 ≤ x8_1) = true := decide_eq_true c10
       clear c10
       obtain ⟨t698, A110, H⟩ := Option.bind_eq_some_iff.mp H
       replace H : (if x8_1 < (x7_1.length : Int) then (codewrightref05_Scale.l0 k1 a1 l2 (x7_1.set (x8_1 : Int).toNat t698) (wrap64 (x8_1 + 1)) a0_0 a0_1 l0_2) else (none)) = some r := H
       have A11 := Aside0.mk A110
       clear A110
       by_cases c12 : x8_1 < (x7_1.length : Int)
       ·rw [if_pos c12] at H
        have c12b0 : decide (x8_1 < (x7_1.length : Int)) = true := decide_eq_true c12
        clear c12
        obtain ⟨y699, hy699⟩ : ∃ y_ : List Int, y_ = (x7_1.set (x8_1 : Int).toNat t698) := ⟨_, rfl⟩
        replace H : (codewrightref05_Scale.l0 k1 a1 l2 y699 (wrap64 (x8_1 + 1)) a0_0 a0_1 l0_2) = some r := by (rw [hy699]; with_reducible exact H)
        have Ny699 := Aside0.mk hy699
        clear hy699
        have H' := Aside0.mk H
        clear H
        (go_wp2)
        have n0_ := Aside0.mk (Kd.R_drew HO_7.out)
        have n1_ := Aside0.mk (blk_drew BK693.out)
        have n2_ := Aside0.mk (below_drew1 HB.out)
        clear HO_7 BK693 HB
        have HO_7 := n0_
        have BK693 := n1_
        have HB := n2_
        clear n0_ n1_ n2_
        have p697 : 0 ≤ (x8_1 : Int) := of_decide_eq_true (by (with_reducible assumption))
        have q697 : x8_1 < (l2.length : Int) := of_decide_eq_true (by (with_reducible assumption))
        obtain ⟨ad697, e697, hx697_0⟩ := Kd.at_int HR2.out x8_1 p697 q697
        have hw697_0 := hx697_0
        cases e697
        replace hx697_0 := (HB.out.cell (World.block_lt_of_cell? w _ hx697_0)).trans hx697_0
        replace p697 := eq_true p697
        replace q697 := eq_true q697
        refine start_ (n := 11) (S := fun w' => w'.cell? ⟨gb693, 0, none⟩ = some (.int .i64 a0_0) ∧ w'.cell? ⟨gb693, 1, none⟩ = some (.int .i64 a0_1) ∧ w'.cell? ⟨gb693, 2, none⟩ = some (.slice A0_2 l0_2.length c0_2) ∧ w'.cell? (ad697.add (x8_1).toNat) = some (.int .i64 (rd l2 x8_1))) (ds := [10]) (bm 11 0) (by kernel_rfl) rfl rfl ⟨(blk_cell BK693.out 0).trans rfl, (blk_cell BK693.out 1).trans rfl, (blk_cell BK693.out 2).trans rfl, ((HB.out.cell (World.block_lt_of_cell? w _ hw697_0)).trans hw697_0)⟩ (fun hHeld => ?_); refine with_tabW codewrightref05_Scale.tab5 codewrightref05_Scale.bits5 (fun HT_ HW_ => ?_)
        generalize wr.drew = w14 at HO_7 BK693 HB hx697_0 hHeld ⊢
        refine pu_ 0 18 (bm 11 1) HT_ ?_
        refine pu_ 1 19 (bm 11 3) HT_ ?_
        refine pu_ 3 21 (bm 11 11) HT_ ?_
        refine pu_ 4 22 (bm 11 27) HT_ ?_
        refine pu_ 5 23 (bm 11 59) HT_ ?_
        refine pu_ 6 24 (bm 11 123) HT_ ?_
        refine take_ (i := 2) (N := some 20) (v := ?_) (a' := ?_) (bm 11 127) rfl rfl (take_ofW HT_.out HW_.out (by kernel_rfl)) (fun _ _ _ h => h) (Or.inl ⟨by rfl, ?_⟩) hHeld ?_ ?_;rotate_left;(rintro w' ⟨s0, s1, s2, s3⟩;go_simp;with_reducible rfl);rotate_left;(simp only [ps_];rfl)
        refine take_ (i := 7) (N := some 25) (v := ?_) (a' := ?_) (bm 11 255) rfl rfl (take_ofW HT_.out HW_.out (by kernel_rfl)) (fun _ _ _ h => h) (Or.inl ⟨by rfl, ?_⟩) hHeld ?_ ?_;rotate_left;(rintro w' ⟨s0, s1, s2, s3⟩;go_simp;with_reducible rfl);rotate_left;(simp only [ps_];rfl)
        refine one_ (i := 8) (N := some 26) (bm 11 511) rfl rfl (one_of HT_.out (by kernel_rfl)) (by decide) (fun K hK => ?_)
        refine goes_ Try.func38 (by kernel_rfl) rfl #[.agg #[.int .i64 a0_0, .int .i64 a0_1, .slice A0_2 l0_2.length c0_2], .int .i64 a1, .int .i64 (rd l2 x8_1)] (by rfl) rfl rfl (by ((simp only [List.map_toArray, List.map_cons, List.map_nil])); (rfl)) ?_
        with_reducible refine (codewrightref04_Mul.calls k1 a0_0 a0_1 _ _ l0_2 a1 (rd l2 x8_1) t698 _ ?side1 ?side2 A11.out).mono ?_
        (case side1 => repeat ((exact (Kd.C_below HR0_2.out HB.out))))
        (case side2 => exact HC0_2.out)
        rintro e w15 ⟨rfl, hb⟩
        refine ⟨_, rfl, ?_⟩
        have n0_ := Aside0.mk (Kd.R_below HO_7.out hb)
        have n1_ := Aside0.mk (blk_below (g := gb693) (o := .cells #[.int .i64 a0_0, .int .i64 a0_1, .slice A0_2 l0_2.length c0_2] 24 (0, 0)) BK693.out hb)
        have n2_ := Aside0.mk (below_step HB.out hb)
        clear HO_7 BK693 HB
        have HO_7 := n0_
        have BK693 := n1_
        have HB := n2_
        clear n0_ n1_ n2_
        ((clear hb))
        have p13 : 0 ≤ (x8_1 : Int) := of_decide_eq_true (by (with_reducible assumption))
        have q13 : (x8_1 : Int) < ((x7_1.length : Int) : Int) := of_decide_eq_true (by (with_reducible assumption))
        obtain ⟨go13, co13, eo13, gb13, gl13, cl13, HG13⟩ := Kd.R_form HO_7.out (by omega)
        ((cases eo13))
        have GB13 := Aside0.mk gb13
        have GG13 := Aside0.mk HG13
        clear gb13 gl13 HG13
        obtain ⟨hx13_0, hf13_0⟩ := Kd.R_celln 0 HO_7.out (x8_1 : Int) p13 q13
        replace p13 := eq_true p13
        replace q13 := eq_true q13
        have HP16 := Kd.R_putn HO_7.out (x8_1 : Int) t698
        rw [← Ny699.out] at HP16
        have HQ16 := Aside0.mk HP16
        clear HP16
        refine hK.out _ _ ⟨(blk_cell BK693.out 0).trans rfl, (blk_cell BK693.out 1).trans rfl, (blk_cell BK693.out 2).trans rfl, ((HB.out.cell (World.block_lt_of_cell? w _ hw697_0)).trans hw697_0)⟩ (fun hHeld => ?_)
        clear hK K
        refine norm_ (a' := ?_) ?_ ?_
        rotate_left
        ·show Act.put _ (some 26) _ = _
         simp only [Act.put, List.setIfInBounds_toArray, List.set_cons_zero, List.set_cons_succ, i64_w, i32_w]
         rfl
        refine pu_ 9 27 (bm 11 1023) HT_ ?_
        refine last_ (i := 10) (N := none) (bm 11 2047) rfl rfl (one_of HT_.out (by kernel_rfl)) (by decide) (fun K hK => ?_)
        refine skip_ (w1 := ?_) (by rfl) rfl ?_ ?_
        rotate_left
        ·go_simp
         rfl
        refine hK.out _ _ ?_
        clear hK K
        refine done_ (done_of HT_.out (by kernel_rfl)) ?_
        (go_wp2)
        go_roundg k1
        case measure => have := HK1.out; omega
        case rel => exact ⟨(y699), (wrap64 (x8_1 + 1)), (by rfl), H', ⟨by have := HK1.out; omega⟩, ⟨HQ16.out⟩, ⟨by (with_reducible repeat (fail)); refine blk_far ?_ (by have h_ := Kd.R_ne HO_7.out BK693.out (by decide); intro e_; exact h_ (by rw [e_]; rfl)) _; (with_reducible repeat (fail)); exact BK693.out⟩, ⟨by repeat ((with_reducible first | (exact HB.out) | (refine below_set ?_ GB13.out)))⟩⟩
       ·rw [if_neg c12] at H
        exact absurd H (by simp)
      ·rw [if_neg c10] at H
       exact absurd H (by simp)
     ·rw [if_neg c9] at H
      have c9b0 : decide (x8_1 < (l2.length : Int)) = false := decide_eq_false c9
      clear c9
      obtain ⟨t700, A170, H⟩ := Option.bind_eq_some_iff.mp H
      replace H : (some t700) = some r := H
      have A17 := Aside0.mk A170
      clear A170
      obtain rfl := Option.some.inj H
      have hcz18_0 : wr.cell? ⟨gb693, 0, none⟩ = some (.int .i64 a0_0) := (blk_cell BK693.out 0).trans rfl
      have hcz18_1 : wr.cell? ⟨gb693, 1, none⟩ = some (.int .i64 a0_1) := (blk_cell BK693.out 1).trans rfl
      have hcz18_2 : wr.cell? ⟨gb693, 2, none⟩ = some (.slice A0_2 l0_2.length c0_2) := (blk_cell BK693.out 2).trans rfl
      have hfz18_0 := blk_frozen BK693.out 0
      have hfz18_1 := blk_frozen BK693.out 1
      have hfz18_2 := blk_frozen BK693.out 2
      obtain ⟨Ao19, co19, eo19⟩ := Kd.R_slice HO_7.out
      subst eo19
      go_wp2_with (((with_reducible refine gate_callee (f := 23) rfl ?_); refine goesL_ (some 30) rfl rfl Try.func23 (by kernel_rfl) rfl #[.agg #[.int .i64 a0_0, .int .i64 a0_1, .slice A0_2 l0_2.length c0_2], .slice Ao19 x7_1.length co19] rfl (by ((simp only [List.map_toArray, List.map_cons, List.map_nil])); (rfl)) ?_; (with_reducible refine (codewrightref05_Canon.calls k1 a0_0 a0_1 _ _ l0_2 _ _ x7_1 t700 _ ?side1 ?side2 ?side3 ?side4 A17.out).mono ?_); (case side1 => repeat ((exact (Kd.C_below HR0_2.out HB.out)))); (case side2 => exact HC0_2.out); (case side3 => repeat ((exact (Kd.R_reads' HO_7.out).2.2))); (case side4 => exact (Kd.R_reads' HO_7.out).2.1); rintro e w20 ⟨v701, rfl, ho0, hb⟩; refine ⟨_, rfl, ?_⟩; have n0_ := Aside0.mk (Kd.R_elder' HO_7.out (Kd.R_base ho0) hb); have n1_ := Aside0.mk (Kd.R_lower (Kd.R_new' ho0 (Kd.R_lt HO_7.out)) (below_size HB.out)); have n2_ := Aside0.mk (blk_below (g := gb693) (o := .cells #[.int .i64 a0_0, .int .i64 a0_1, .slice A0_2 l0_2.length c0_2] 24 (0, 0)) BK693.out hb); have n3_ := Aside0.mk (below_step HB.out hb); clear HO_7; clear BK693; clear HB; have HO_7 := n0_; have HO702 := n1_; have BK693 := n2_; have HB := n3_; clear n0_ n1_ n2_ n3_; ((clear hb)); (skip); (skip); (skip); ((clear ho0))))
      go_ret
      exact ⟨_, by rfl, by exact Kd.R_mono HO702.out (fun _ hk => trivial), by exact HB.out⟩
  ·rw [if_neg c5] at H
   exact absurd H (by simp)
 ·rw [if_neg c4] at H
  exact absurd H (by simp)
end Go.Proofs.Ytkdakjlopheefaa.PA
end
section
namespace Go.Proofs.Ytkdakjlopheefaa.PA
open Go.RowKit Go.Proofs.YtkdakjlopheefaaW.PrintWords Go.Proofs.YtkdakjlopheefaaW.PrintLast Go.Proofs.YtkdakjlopheefaaW.PrintMore
attribute [local go_sem] max2_int min2_int max_two min_two max_three min_three max_four min_four
set_option linter.unusedVariables false
set_option linter.unusedSimpArgs false
def codewrightref05_Add.l0 : Nat → List Int → List Int → List Int → Int → Int → Int → List Int → Option (List Int)
 | 0, _, _, _, _, _, _, _ => none
 | k + 1, x1, x2, x7, x8, x704000, x704001, x704002 => if x8 < (x7.length : Int) then ((codewrightref05_At.f k x704000 x704001 x704002 x1 x8).bind fun t707 => ((codewrightref05_At.f k x704000 x704001 x704002 x2 x8).bind fun t708 => ((codewrightref04_Add.f k x704000 x704001 x704002 t707 t708).bind fun t709 => (if 0 ≤ x8 then (codewrightref05_Add.l0 k x1 x2 (x7.set (x8 : Int).toNat t709) (wrap64 (x8 + 1)) x704000 x704001 x704002) else (none))))) else ((codewrightref05_Canon.f k x704000 x704001 x704002 x7).bind fun t711 => (some t711))
def codewrightref05_Add.f (k : Nat) (a0_0 : Int) (a0_1 : Int) (l0_2 : List Int) (l1 : List Int) (l2 : List Int) : Option (List Int) := if 0 ≤ (mx (l1.length : Int) (l2.length : Int)) then (if (mx (l1.length : Int) (l2.length : Int) : Int).toNat ≤ 35184372088832 then (codewrightref05_Add.l0 k l1 l2 (List.replicate (mx (l1.length : Int) (l2.length : Int) : Int).toNat 0) 0 a0_0 a0_1 l0_2) else (none)) else (none)
def codewrightref05_Add.T5 : Bool × List (List Nat × List Nat) := (true, [([], []), ([], []), ([], []), ([], []), ([], []), ([], []), ([3, 4, 5], [3, 4, 5]), ([], []), ([], []), ([], []), ([7, 8, 9, 6], [7, 8, 9]), ([2, 6, 10, 10], [2, 6, 10]), ([0, 1, 0, 1, 2, 3, 4, 5, 6, 7, 8, 9, 10, 11], [0, 1]), ([12, 11, 11, 0, 1, 2, 3, 4, 5, 6, 7, 8, 9, 10, 11], [11, 12])])
def codewrightref05_Add.B5 : List Nat := [0, 0, 0, 0, 0, 0, 56, 0, 0, 0, 1016, 2044, 4095, 8191]
theorem codewrightref05_Add.tab5 : rtab .any (opsOf Try.f96 5) = codewrightref05_Add.T5 := by kernel_rfl
theorem codewrightref05_Add.bits5 : waitsOk codewrightref05_Add.T5.2 codewrightref05_Add.B5 = true := by kernel_rfl
set_option maxHeartbeats 8000000 in
set_option maxRecDepth 100000 in
theorem codewrightref05_Add.calls (k : Nat) (a0_0 : Int) (a0_1 : Int) (A0_2 : Option Addr) (c0_2 : Nat) (l0_2 : List Int) (A1 : Option Addr) (c1 : Nat) (l1 : List Int) (A2 : Option Addr) (c2 : Nat) (l2 : List Int) (r : List Int) (w : World) (hr0_2 : Kd.C (Kd.int .i64) w A0_2 l0_2.length l0_2) (hc0_2 : l0_2.length ≤ c0_2) (hr1 : Kd.C (Kd.int .i64) w A1 l1.length l1) (hc1 : l1.length ≤ c1) (hr2 : Kd.C (Kd.int .i64) w A2 l2.length l2) (hc2 : l2.length ≤ c2) (h : codewrightref05_Add.f k a0_0 a0_1 l0_2 l1 l2 = some r) :
  Calls Try.prog 96 #[.agg #[.int .i64 a0_0, .int .i64 a0_1, .slice A0_2 l0_2.length c0_2], .slice A1 l1.length c1, .slice A2 l2.length c2] w fun e w' => ∃ v0_ : Value, e = .returned (v0_) ∧ Kd.R (Kd.int .i64) 3 w' w.heap.size (fun _ => True) v0_ r ∧ Below w.heap.size w w' := by
 have hu24 := Try.underlying24
 have HR0_2 := Aside0.mk hr0_2
 have HC0_2 := Aside0.mk hc0_2
 clear hr0_2 hc0_2
 have HR1 := Aside0.mk hr1
 have HC1 := Aside0.mk hc1
 clear hr1 hc1
 have HR2 := Aside0.mk hr2
 have HC2 := Aside0.mk hc2
 clear hr2 hc2
 have HB := Aside0.mk (Below.refl w.heap.size w)
 have H : (if 0 ≤ (mx (l1.length : Int) (l2.length : Int)) then (if (mx (l1.length : Int) (l2.length : Int) : Int).toNat ≤ 35184372088832 then (codewrightref05_Add.l0 k l1 l2 (List.replicate (mx (l1.length : Int) (l2.length : Int) : Int).toNat 0) 0 a0_0 a0_1 l0_2) else (none)) else (none)) = some r := h
 clear h
 obtain ⟨ji4, hji4⟩ : ∃ j_ : Int, (mx (l1.length : Int) (l2.length : Int)) = j_ := ⟨_, rfl⟩
 replace H : (if 0 ≤ (ji4) then (if (ji4 : Int).toNat ≤ 35184372088832 then (codewrightref05_Add.l0 k l1 l2 (List.replicate (ji4 : Int).toNat 0) 0 a0_0 a0_1 l0_2) else (none)) else (none)) = some r := by (rw [hji4] at H; exact H)
 ((have hji4l : 0 ≤ ji4 := by (rw [← hji4]; unfold mx; (repeat' split) <;> omega)))
 ((have hji4m : 0 ≤ ji4 := by omega))
 have hji4_ : (if (l1.length : Int) < (l2.length : Int) then (l2.length : Int) else (l1.length : Int)) = ji4 := hji4
 have hji4n : (if l1.length < l2.length then (l2.length : Int) else (l1.length : Int)) = ji4 := by rw [← hji4_]; simp only [Int.ofNat_lt]
 by_cases c5 : 0 ≤ (ji4)
 ·rw [if_pos c5] at H
  have c5b0 := eq_true c5
  have c5b1 : decide (0 ≤ (ji4)) = true := decide_eq_true c5
  clear c5
  by_cases c6 : (ji4 : Int).toNat ≤ 35184372088832
  ·rw [if_pos c6] at H
   have c6b0 := eq_true c6
   have c6b1 : decide ((ji4 : Int).toNat ≤ 35184372088832) = true := decide_eq_true c6
   clear c6
   obtain ⟨y704, hy704⟩ : ∃ y_ : List Int, y_ = (List.replicate (ji4 : Int).toNat 0) := ⟨_, rfl⟩
   replace H : (codewrightref05_Add.l0 k l1 l2 y704 0 a0_0 a0_1 l0_2) = some r := by (rw [hy704]; with_reducible exact H)
   have Ny704 := Aside0.mk hy704
   clear hy704
   have H' := Aside0.mk H
   clear H
   go_enter Try.func96, Try.ntmps96
   go_wp2_with (first | ((with_reducible refine gate_dst (N := 3) rfl ?_); refine box_event ?hg (N := 3) ?hd (cs := #[.int .i64 a0_0, .int .i64 a0_1, .slice A0_2 l0_2.length c0_2]) (t := 24) ?hr ?_; (case hd => rfl); (case hg => rfl); (case hr => (go_simp; done)); intro gb703 hg w7 hbox hb; have n0_ := Aside0.mk (below_step HB.out hb); have n1_ := Aside0.mk (hbox); have n2_ := Aside0.mk ((by rw [hg]; exact (below_size HB.out) : w.heap.size ≤ gb703)); have n3_ := Aside0.mk ((by rw [hg]; exact (below_size HB.out) : w.heap.size ≤ gb703)); clear HB; have HB := n0_; have BK703 := n1_; have GW703 := n2_; have GE703 := n3_; clear n0_ n1_ n2_ n3_; clear hb hbox hg) | ((with_reducible refine gate_dst (N := 14) rfl ?_); refine Kd.R_make (Kd.int .i64) _ 3 rfl (N := 14) rfl 22 _ _ rfl ji4 rfl rfl Try.underlying22 (.int .i64 0) 8 info3 rfl (by decide) (by omega) 0 (ok := fun _ => True) (okp := fun _ => True) rfl (fun _ hk => hk) trivial (of_decide_eq_true (by (with_reducible assumption))) (Nat.le_trans (Nat.mul_le_mul_right _ (of_decide_eq_true (by (with_reducible assumption)) : ji4.toNat ≤ 35184372088832)) (by omega)) (Below.refl _ _) (Nat.le_refl _) ?_; intro v705 w8 ho9 hb hg_ hnew_; clear hg_ hnew_; ((rw [← Ny704.out] at ho9)); have n0_ := Aside0.mk (Kd.R_lower ho9 (below_size HB.out)); have n1_ := Aside0.mk (blk_below (g := gb703) (o := .cells #[.int .i64 a0_0, .int .i64 a0_1, .slice A0_2 l0_2.length c0_2] 24 (0, 0)) BK703.out hb); have n2_ := Aside0.mk (below_step HB.out hb); clear BK703; clear HB; have HO706 := n0_; have BK703 := n1_; have HB := n2_; clear n0_ n1_ n2_; clear hb ho9))
   go_loopg [8] k (fun kq v8 w' => ∃ (x7_1 : List Int) (x8_1 : Int), v8 = .int .i64 x8_1 ∧ Aside0 (codewrightref05_Add.l0 kq l1 l2 x7_1 x8_1 a0_0 a0_1 l0_2 = some r) ∧ Aside0 (kq ≤ k) ∧ Aside0 (Kd.R (Kd.int .i64) 3 w' w.heap.size (fun _ => True) v705 x7_1) ∧ Aside0 (w'.heap[gb703]? = some (.cells #[.int .i64 a0_0, .int .i64 a0_1, (.slice A0_2 l0_2.length c0_2)] 24 (0, 0))) ∧ Aside0 (Below w.heap.size w w'))
   case atStart => exact ⟨(y704), (0), (by rfl), H', ⟨Nat.le_refl _⟩, ⟨HO706.out⟩, ⟨BK703.out⟩, ⟨HB.out⟩⟩
   case round =>
    clear H' c5b0 c5b1 c6b0 c6b1
    obtain ⟨x7_1, x8_1, rfl, HA, HK1, HO_7, BK703, HB⟩ := hrel
    cases gk with
    | zero => exact absurd HA.out (by simp [codewrightref05_Add.l0])
    | succ k1 =>
     have H := HA.out
     clear HA
     simp only [codewrightref05_Add.l0] at H
     by_cases c10 : x8_1 < (x7_1.length : Int)
     ·rw [if_pos c10] at H
      have c10b0 : decide (x8_1 < (x7_1.length : Int)) = true := decide_eq_true c10
      clear c10
      obtain ⟨t707, A110, H⟩ := Option.bind_eq_some_iff.mp H
      replace H : ((codewrightref05_At.f k1 a0_0 a0_1 l0_2 l2 x8_1).bind fun t708 => ((codewrightref04_Add.f k1 a0_0 a0_1 l0_2 t707 t708).bind fun t709 => (if 0 ≤ x8_1 then (codewrightref05_Add.l0 k1 l1 l2 (x7_1.set (x8_1 : Int).toNat t709) (wrap64 (x8_1 + 1)) a0_0 a0_1 l0_2) else (none)))) = some r := H
      have A11 := Aside0.mk A110
      clear A110
      obtain ⟨t708, A120, H⟩ := Option.bind_eq_some_iff.mp H
      replace H : ((codewrightref04_Add.f k1 a0_0 a0_1 l0_2 t707 t708).bind fun t709 => (if 0 ≤ x8_1 then (codewrightref05_Add.l0 k1 l1 l2 (x7_1.set (x8_1 : Int).toNat t709) (wrap64 (x8_1 + 1)) a0_0 a0_1 l0_2) else (none))) = some r := H
      have A12 := Aside0.mk A120
      clear A120
      obtain ⟨t709, A130, H⟩ := Option.bind_eq_some_iff.mp H
      replace H : (if 0 ≤ x8_1 then (codewrightref05_Add.l0 k1 l1 l2 (x7_1.set (x8_1 : Int).toNat t709) (wrap64 (x8_1 + 1)) a0_0 a0_1 l0_2) else (none)) = some r := H
      have A13 := Aside0.mk A130
      clear A130
      by_cases c14 : 0 ≤ x8_1
      ·rw [if_pos c14] at H
       have c14b0 : decide (0 ≤ x8_1) = true := decide_eq_true c14
       clear c14
       obtain ⟨y710, hy710⟩ : ∃ y_ : List Int, y_ = (x7_1.set (x8_1 : Int).toNat t709) := ⟨_, rfl⟩
       replace H : (codewrightref05_Add.l0 k1 l1 l2 y710 (wrap64 (x8_1 + 1)) a0_0 a0_1 l0_2) = some r := by (rw [hy710]; with_reducible exact H)
       have Ny710 := Aside0.mk hy710
       clear hy710
       have H' := Aside0.mk H
       clear H
       obtain ⟨Ao16, co16, eo16⟩ := Kd.R_slice HO_7.out
       subst eo16
       (go_wp2)
       have n0_ := Aside0.mk (Kd.R_drew HO_7.out)
       have n1_ := Aside0.mk (blk_drew BK703.out)
       have n2_ := Aside0.mk (below_drew1 HB.out)
       clear HO_7 BK703 HB
       have HO_7 := n0_
       have BK703 := n1_
       have HB := n2_
       clear n0_ n1_ n2_
       refine start_ (n := 14) (S := fun w' => w'.cell? ⟨gb703, 0, none⟩ = some (.int .i64 a0_0) ∧ w'.cell? ⟨gb703, 1, none⟩ = some (.int .i64 a0_1) ∧ w'.cell? ⟨gb703, 2, none⟩ = some (.slice A0_2 l0_2.length c0_2)) (ds := [13]) (bm 14 0) (by kernel_rfl) rfl rfl ⟨(blk_cell BK703.out 0).trans rfl, (blk_cell BK703.out 1).trans rfl, (blk_cell BK703.out 2).trans rfl⟩ (fun hHeld => ?_); refine with_tabW codewrightref05_Add.tab5 codewrightref05_Add.bits5 (fun HT_ HW_ => ?_)
       generalize wr.drew = w17 at HO_7 BK703 HB hHeld ⊢
       refine pu_ 0 21 (bm 14 1) HT_ ?_
       refine pu_ 1 22 (bm 14 3) HT_ ?_
       refine pu_ 4 25 (bm 14 19) HT_ ?_
       refine pu_ 5 26 (bm 14 51) HT_ ?_
       refine pu_ 8 29 (bm 14 307) HT_ ?_
       refine pu_ 9 30 (bm 14 819) HT_ ?_
       refine take_ (i := 2) (N := some 23) (v := ?_) (a' := ?_) (bm 14 823) rfl rfl (take_ofW HT_.out HW_.out (by kernel_rfl)) (fun _ _ _ h => h) (Or.inl ⟨by rfl, ?_⟩) hHeld ?_ ?_;rotate_left;(rintro w' ⟨s0, s1, s2⟩;go_simp;with_reducible rfl);rotate_left;(simp only [ps_];rfl)
       refine take_ (i := 3) (N := some 24) (v := ?_) (a' := ?_) (bm 14 831) rfl rfl (take_ofW HT_.out HW_.out (by kernel_rfl)) (fun _ _ _ h => h) (Or.inl ⟨by rfl, ?_⟩) hHeld ?_ ?_;rotate_left;(rintro w' ⟨s0, s1, s2⟩;go_simp;with_reducible rfl);rotate_left;(simp only [ps_];rfl)
       refine take_ (i := 7) (N := some 28) (v := ?_) (a' := ?_) (bm 14 959) rfl rfl (take_ofW HT_.out HW_.out (by kernel_rfl)) (fun _ _ _ h => h) (Or.inl ⟨by rfl, ?_⟩) hHeld ?_ ?_;rotate_left;(rintro w' ⟨s0, s1, s2⟩;go_simp;with_reducible rfl);rotate_left;(simp only [ps_];rfl)
       refine one_ (i := 6) (N := some 27) (bm 14 1023) rfl rfl (one_of HT_.out (by kernel_rfl)) (by decide) (fun K hK => ?_)
       refine goes_ Try.func56 (by kernel_rfl) rfl #[.agg #[.int .i64 a0_0, .int .i64 a0_1, .slice A0_2 l0_2.length c0_2], .slice A1 l1.length c1, .int .i64 x8_1] (by rfl) rfl rfl (by ((simp only [List.map_toArray, List.map_cons, List.map_nil])); (rfl)) ?_
       with_reducible refine (codewrightref05_At.calls k1 a0_0 a0_1 _ _ l0_2 _ _ l1 x8_1 t707 _ ?side1 ?side2 ?side3 ?side4 A11.out).mono ?_
       (case side1 => repeat ((exact (Kd.C_below HR0_2.out HB.out))))
       (case side2 => exact HC0_2.out)
       (case side3 => repeat ((exact (Kd.C_below HR1.out HB.out))))
       (case side4 => exact HC1.out)
       rintro e w18 ⟨rfl, hb⟩
       refine ⟨_, rfl, ?_⟩
       have n0_ := Aside0.mk (Kd.R_below HO_7.out hb)
       have n1_ := Aside0.mk (blk_below (g := gb703) (o := .cells #[.int .i64 a0_0, .int .i64 a0_1, .slice A0_2 l0_2.length c0_2] 24 (0, 0)) BK703.out hb)
       have n2_ := Aside0.mk (below_step HB.out hb)
       clear HO_7 BK703 HB
       have HO_7 := n0_
       have BK703 := n1_
       have HB := n2_
       clear n0_ n1_ n2_
       ((clear hb))
       refine hK.out _ _ ⟨(blk_cell BK703.out 0).trans rfl, (blk_cell BK703.out 1).trans rfl, (blk_cell BK703.out 2).trans rfl⟩ (fun hHeld => ?_)
       clear hK K
       refine norm_ (a' := ?_) ?_ ?_
       rotate_left
       ·show Act.put _ (some 27) _ = _
        simp only [Act.put, List.setIfInBounds_toArray, List.set_cons_zero, List.set_cons_succ, i64_w, i32_w]
        rfl
       refine one_ (i := 10) (N := some 31) (bm 14 2047) rfl rfl (one_of HT_.out (by kernel_rfl)) (by decide) (fun K hK => ?_)
       refine goes_ Try.func56 (by kernel_rfl) rfl #[.agg #[.int .i64 a0_0, .int .i64 a0_1, .slice A0_2 l0_2.length c0_2], .slice A2 l2.length c2, .int .i64 x8_1] (by rfl) rfl rfl (by ((simp only [List.map_toArray, List.map_cons, List.map_nil])); (rfl)) ?_
       with_reducible refine (codewrightref05_At.calls k1 a0_0 a0_1 _ _ l0_2 _ _ l2 x8_1 t708 _ ?side1 ?side2 ?side3 ?side4 A12.out).mono ?_
       (case side1 => repeat ((exact (Kd.C_below HR0_2.out HB.out))))
       (case side2 => exact HC0_2.out)
       (case side3 => repeat ((exact (Kd.C_below HR2.out HB.out))))
       (case side4 => exact HC2.out)
       rintro e w19 ⟨rfl, hb⟩
       refine ⟨_, rfl, ?_⟩
       have n0_ := Aside0.mk (Kd.R_below HO_7.out hb)
       have n1_ := Aside0.mk (blk_below (g := gb703) (o := .cells #[.int .i64 a0_0, .int .i64 a0_1, .slice A0_2 l0_2.length c0_2] 24 (0, 0)) BK703.out hb)
       have n2_ := Aside0.mk (below_step HB.out hb)
       clear HO_7 BK703 HB
       have HO_7 := n0_
       have BK703 := n1_
       have HB := n2_
       clear n0_ n1_ n2_
       ((clear hb))
       refine hK.out _ _ ⟨(blk_cell BK703.out 0).trans rfl, (blk_cell BK703.out 1).trans rfl, (blk_cell BK703.out 2).trans rfl⟩ (fun hHeld => ?_)
       clear hK K
       refine norm_ (a' := ?_) ?_ ?_
       rotate_left
       ·show Act.put _ (some 31) _ = _
        simp only [Act.put, List.setIfInBounds_toArray, List.set_cons_zero, List.set_cons_succ, i64_w, i32_w]
        rfl
       refine one_ (i := 11) (N := some 32) (bm 14 4095) rfl rfl (one_of HT_.out (by kernel_rfl)) (by decide) (fun K hK => ?_)
       refine goes_ Try.func55 (by kernel_rfl) rfl #[.agg #[.int .i64 a0_0, .int .i64 a0_1, .slice A0_2 l0_2.length c0_2], .int .i64 t707, .int .i64 t708] (by rfl) rfl rfl (by ((simp only [List.map_toArray, List.map_cons, List.map_nil])); (rfl)) ?_
       with_reducible refine (codewrightref04_Add.calls k1 a0_0 a0_1 _ _ l0_2 t707 t708 t709 _ ?side1 ?side2 A13.out).mono ?_
       (case side1 => repeat ((exact (Kd.C_below HR0_2.out HB.out))))
       (case side2 => exact HC0_2.out)
       rintro e w20 ⟨rfl, hb⟩
       refine ⟨_, rfl, ?_⟩
       have n0_ := Aside0.mk (Kd.R_below HO_7.out hb)
       have n1_ := Aside0.mk (blk_below (g := gb703) (o := .cells #[.int .i64 a0_0, .int .i64 a0_1, .slice A0_2 l0_2.length c0_2] 24 (0, 0)) BK703.out hb)
       have n2_ := Aside0.mk (below_step HB.out hb)
       clear HO_7 BK703 HB
       have HO_7 := n0_
       have BK703 := n1_
       have HB := n2_
       clear n0_ n1_ n2_
       ((clear hb))
       have p15 : 0 ≤ (x8_1 : Int) := of_decide_eq_true (by (with_reducible assumption))
       have q15 : (x8_1 : Int) < ((x7_1.length : Int) : Int) := of_decide_eq_true (by (with_reducible assumption))
       obtain ⟨go15, co15, eo15, gb15, gl15, cl15, HG15⟩ := Kd.R_form HO_7.out (by omega)
       ((cases eo15))
       have GB15 := Aside0.mk gb15
       have GG15 := Aside0.mk HG15
       clear gb15 gl15 HG15
       obtain ⟨hx15_0, hf15_0⟩ := Kd.R_celln 0 HO_7.out (x8_1 : Int) p15 q15
       replace p15 := eq_true p15
       replace q15 := eq_true q15
       have HP21 := Kd.R_putn HO_7.out (x8_1 : Int) t709
       rw [← Ny710.out] at HP21
       have HQ21 := Aside0.mk HP21
       clear HP21
       refine hK.out _ _ ⟨(blk_cell BK703.out 0).trans rfl, (blk_cell BK703.out 1).trans rfl, (blk_cell BK703.out 2).trans rfl⟩ (fun hHeld => ?_)
       clear hK K
       refine norm_ (a' := ?_) ?_ ?_
       rotate_left
       ·show Act.put _ (some 32) _ = _
        simp only [Act.put, List.setIfInBounds_toArray, List.set_cons_zero, List.set_cons_succ, i64_w, i32_w]
        rfl
       refine pu_ 12 33 (bm 14 8191) HT_ ?_
       refine last_ (i := 13) (N := none) (bm 14 16383) rfl rfl (one_of HT_.out (by kernel_rfl)) (by decide) (fun K hK => ?_)
       refine skip_ (w1 := ?_) (by rfl) rfl ?_ ?_
       rotate_left
       ·go_simp
        rfl
       refine hK.out _ _ ?_
       clear hK K
       refine done_ (done_of HT_.out (by kernel_rfl)) ?_
       (go_wp2)
       go_roundg k1
       case measure => have := HK1.out; omega
       case rel => exact ⟨(y710), (wrap64 (x8_1 + 1)), (by rfl), H', ⟨by have := HK1.out; omega⟩, ⟨HQ21.out⟩, ⟨by (with_reducible repeat (fail)); refine blk_far ?_ (by have h_ := Kd.R_ne HO_7.out BK703.out (by decide); intro e_; exact h_ (by rw [e_]; rfl)) _; (with_reducible repeat (fail)); exact BK703.out⟩, ⟨by repeat ((with_reducible first | (exact HB.out) | (refine below_set ?_ GB15.out)))⟩⟩
      ·rw [if_neg c14] at H
       exact absurd H (by simp)
     ·rw [if_neg c10] at H
      have c10b0 : decide (x8_1 < (x7_1.length : Int)) = false := decide_eq_false c10
      clear c10
      obtain ⟨t711, A220, H⟩ := Option.bind_eq_some_iff.mp H
      replace H : (some t711) = some r := H
      have A22 := Aside0.mk A220
      clear A220
      obtain rfl := Option.some.inj H
      obtain ⟨Ao23, co23, eo23⟩ := Kd.R_slice HO_7.out
      subst eo23
      have hcz24_0 : wr.cell? ⟨gb703, 0, none⟩ = some (.int .i64 a0_0) := (blk_cell BK703.out 0).trans rfl
      have hcz24_1 : wr.cell? ⟨gb703, 1, none⟩ = some (.int .i64 a0_1) := (blk_cell BK703.out 1).trans rfl
      have hcz24_2 : wr.cell? ⟨gb703, 2, none⟩ = some (.slice A0_2 l0_2.length c0_2) := (blk_cell BK703.out 2).trans rfl
      have hfz24_0 := blk_frozen BK703.out 0
      have hfz24_1 := blk_frozen BK703.out 1
      have hfz24_2 := blk_frozen BK703.out 2
      go_wp2_with (((with_reducible refine gate_callee (f := 23) rfl ?_); refine goesL_ (some 36) rfl rfl Try.func23 (by kernel_rfl) rfl #[.agg #[.int .i64 a0_0, .int .i64 a0_1, .slice A0_2 l0_2.length c0_2], .slice Ao23 x7_1.length co23] rfl (by ((simp only [List.map_toArray, List.map_cons, List.map_nil])); (rfl)) ?_; (with_reducible refine (codewrightref05_Canon.calls k1 a0_0 a0_1 _ _ l0_2 _ _ x7_1 t711 _ ?side1 ?side2 ?side3 ?side4 A22.out).mono ?_); (case side1 => repeat ((exact (Kd.C_below HR0_2.out HB.out)))); (case side2 => exact HC0_2.out); (case side3 => repeat ((exact (Kd.R_reads' HO_7.out).2.2))); (case side4 => exact (Kd.R_reads' HO_7.out).2.1); rintro e w25 ⟨v712, rfl, ho0, hb⟩; refine ⟨_, rfl, ?_⟩; have n0_ := Aside0.mk (Kd.R_elder' HO_7.out (Kd.R_base ho0) hb); have n1_ := Aside0.mk (Kd.R_lower (Kd.R_new' ho0 (Kd.R_lt HO_7.out)) (below_size HB.out)); have n2_ := Aside0.mk (blk_below (g := gb703) (o := .cells #[.int .i64 a0_0, .int .i64 a0_1, .slice A0_2 l0_2.length c0_2] 24 (0, 0)) BK703.out hb); have n3_ := Aside0.mk (below_step HB.out hb); clear HO_7; clear BK703; clear HB; have HO_7 := n0_; have HO713 := n1_; have BK703 := n2_; have HB := n3_; clear n0_ n1_ n2_ n3_; ((clear hb)); (skip); (skip); (skip); ((clear ho0))))
      go_ret
      exact ⟨_, by rfl, by exact Kd.R_mono HO713.out (fun _ hk => trivial), by exact HB.out⟩
  ·rw [if_neg c6] at H
   exact absurd H (by simp)
 ·rw [if_neg c5] at H
  exact absurd H (by simp)
def codewrightref05_Sub.f (k : Nat) (a0_0 : Int) (a0_1 : Int) (l0_2 : List Int) (l1 : List Int) (l2 : List Int) : Option (List Int) := (codewrightref04_Neg.f k a0_0 a0_1 l0_2 1).bind fun t715 => ((codewrightref05_Scale.f k a0_0 a0_1 l0_2 t715 l2).bind fun t716 => ((codewrightref05_Add.f k a0_0 a0_1 l0_2 l1 t716).bind fun t719 => (some t719)))
def codewrightref05_Sub.T1 : Bool × List (List Nat × List Nat) := (true, [([], []), ([], []), ([], []), ([], []), ([3], [3]), ([], []), ([2, 4, 5, 4], [2, 4, 5]), ([0, 1, 6, 6], [0, 1, 6]), ([7, 7, 0, 1, 2, 3, 4, 5, 6, 7], [7])])
def codewrightref05_Sub.B1 : List Nat := [0, 0, 0, 0, 8, 0, 60, 127, 255]
theorem codewrightref05_Sub.tab1 : rtab .any (opsOf Try.f86 1) = codewrightref05_Sub.T1 := by kernel_rfl
theorem codewrightref05_Sub.bits1 : waitsOk codewrightref05_Sub.T1.2 codewrightref05_Sub.B1 = true := by kernel_rfl
set_option maxHeartbeats 8000000 in
set_option maxRecDepth 100000 in
theorem codewrightref05_Sub.calls (k : Nat) (a0_0 : Int) (a0_1 : Int) (A0_2 : Option Addr) (c0_2 : Nat) (l0_2 : List Int) (A1 : Option Addr) (c1 : Nat) (l1 : List Int) (A2 : Option Addr) (c2 : Nat) (l2 : List Int) (r : List Int) (w : World) (hr0_2 : Kd.C (Kd.int .i64) w A0_2 l0_2.length l0_2) (hc0_2 : l0_2.length ≤ c0_2) (hr1 : Kd.C (Kd.int .i64) w A1 l1.length l1) (hc1 : l1.length ≤ c1) (hr2 : Kd.C (Kd.int .i64) w A2 l2.length l2) (hc2 : l2.length ≤ c2) (h : codewrightref05_Sub.f k a0_0 a0_1 l0_2 l1 l2 = some r) :
  Calls Try.prog 86 #[.agg #[.int .i64 a0_0, .int .i64 a0_1, .slice A0_2 l0_2.length c0_2], .slice A1 l1.length c1, .slice A2 l2.length c2] w fun e w' => ∃ v0_ : Value, e = .returned (v0_) ∧ Kd.R (Kd.int .i64) 3 w' w.heap.size (fun _ => True) v0_ r ∧ Below w.heap.size w w' := by
 have hu24 := Try.underlying24
 have HR0_2 := Aside0.mk hr0_2
 have HC0_2 := Aside0.mk hc0_2
 clear hr0_2 hc0_2
 have HR1 := Aside0.mk hr1
 have HC1 := Aside0.mk hc1
 clear hr1 hc1
 have HR2 := Aside0.mk hr2
 have HC2 := Aside0.mk hc2
 clear hr2 hc2
 have HB := Aside0.mk (Below.refl w.heap.size w)
 have H : ((codewrightref04_Neg.f k a0_0 a0_1 l0_2 1).bind fun t715 => ((codewrightref05_Scale.f k a0_0 a0_1 l0_2 t715 l2).bind fun t716 => ((codewrightref05_Add.f k a0_0 a0_1 l0_2 l1 t716).bind fun t719 => (some t719)))) = some r := h
 clear h
 obtain ⟨t715, A40, H⟩ := Option.bind_eq_some_iff.mp H
 replace H : ((codewrightref05_Scale.f k a0_0 a0_1 l0_2 t715 l2).bind fun t716 => ((codewrightref05_Add.f k a0_0 a0_1 l0_2 l1 t716).bind fun t719 => (some t719))) = some r := H
 have A4 := Aside0.mk A40
 clear A40
 obtain ⟨t716, A50, H⟩ := Option.bind_eq_some_iff.mp H
 replace H : ((codewrightref05_Add.f k a0_0 a0_1 l0_2 l1 t716).bind fun t719 => (some t719)) = some r := H
 have A5 := Aside0.mk A50
 clear A50
 obtain ⟨t719, A60, H⟩ := Option.bind_eq_some_iff.mp H
 replace H : (some t719) = some r := H
 have A6 := Aside0.mk A60
 clear A60
 obtain rfl := Option.some.inj H
 go_enter Try.func86, Try.ntmps86
 (go_wp2_with (((with_reducible refine gate_dst (N := 3) rfl ?_); refine box_event ?hg (N := 3) ?hd (cs := #[.int .i64 a0_0, .int .i64 a0_1, .slice A0_2 l0_2.length c0_2]) (t := 24) ?hr ?_; (case hd => rfl); (case hg => rfl); (case hr => (go_simp; done)); intro gb714 hg w7 hbox hb; have n0_ := Aside0.mk (below_step HB.out hb); have n1_ := Aside0.mk (hbox); have n2_ := Aside0.mk ((by rw [hg]; exact (below_size HB.out) : w.heap.size ≤ gb714)); have n3_ := Aside0.mk ((by rw [hg]; exact (below_size HB.out) : w.heap.size ≤ gb714)); clear HB; have HB := n0_; have BK714 := n1_; have GW714 := n2_; have GE714 := n3_; clear n0_ n1_ n2_ n3_; clear hb hbox hg)))
 have n0_ := Aside0.mk (blk_drew BK714.out)
 have n1_ := Aside0.mk (below_drew1 HB.out)
 clear BK714 HB
 have BK714 := n0_
 have HB := n1_
 clear n0_ n1_
 refine start_ (n := 9) (S := fun w' => w'.cell? ⟨gb714, 0, none⟩ = some (.int .i64 a0_0) ∧ w'.cell? ⟨gb714, 1, none⟩ = some (.int .i64 a0_1) ∧ w'.cell? ⟨gb714, 2, none⟩ = some (.slice A0_2 l0_2.length c0_2)) (ds := []) (bm 9 0) (by kernel_rfl) rfl rfl ⟨(blk_cell BK714.out 0).trans rfl, (blk_cell BK714.out 1).trans rfl, (blk_cell BK714.out 2).trans rfl⟩ (fun hHeld => ?_); refine with_tabW codewrightref05_Sub.tab1 codewrightref05_Sub.bits1 (fun HT_ HW_ => ?_)
 generalize w7.drew = w8 at BK714 HB hHeld ⊢
 refine pu_ 1 8 (bm 9 2) HT_ ?_
 refine pu_ 5 12 (bm 9 34) HT_ ?_
 refine take_ (i := 0) (N := some 7) (v := ?_) (a' := ?_) (bm 9 35) rfl rfl (take_ofW HT_.out HW_.out (by kernel_rfl)) (fun _ _ _ h => h) (Or.inl ⟨by rfl, ?_⟩) hHeld ?_ ?_;rotate_left;(rintro w' ⟨s0, s1, s2⟩;go_simp;with_reducible rfl);rotate_left;(simp only [ps_];rfl)
 refine take_ (i := 2) (N := some 9) (v := ?_) (a' := ?_) (bm 9 39) rfl rfl (take_ofW HT_.out HW_.out (by kernel_rfl)) (fun _ _ _ h => h) (Or.inl ⟨by rfl, ?_⟩) hHeld ?_ ?_;rotate_left;(rintro w' ⟨s0, s1, s2⟩;go_simp;with_reducible rfl);rotate_left;(simp only [ps_];rfl)
 refine take_ (i := 3) (N := some 10) (v := ?_) (a' := ?_) (bm 9 47) rfl rfl (take_ofW HT_.out HW_.out (by kernel_rfl)) (fun _ _ _ h => h) (Or.inl ⟨by rfl, ?_⟩) hHeld ?_ ?_;rotate_left;(rintro w' ⟨s0, s1, s2⟩;go_simp;with_reducible rfl);rotate_left;(simp only [ps_];rfl)
 refine one_ (i := 4) (N := some 11) (bm 9 63) rfl rfl (one_of HT_.out (by kernel_rfl)) (by decide) (fun K hK => ?_)
 refine goes_ Try.func59 (by kernel_rfl) rfl #[.agg #[.int .i64 a0_0, .int .i64 a0_1, .slice A0_2 l0_2.length c0_2], .int .i64 1] (by rfl) rfl rfl (by ((simp only [List.map_toArray, List.map_cons, List.map_nil])); (rfl)) ?_
 with_reducible refine (codewrightref04_Neg.calls k a0_0 a0_1 _ _ l0_2 1 t715 _ ?side1 ?side2 A4.out).mono ?_
 (case side1 => repeat ((exact (Kd.C_below HR0_2.out HB.out))))
 (case side2 => exact HC0_2.out)
 rintro e w9 ⟨rfl, hb⟩
 refine ⟨_, rfl, ?_⟩
 have n0_ := Aside0.mk (blk_below (g := gb714) (o := .cells #[.int .i64 a0_0, .int .i64 a0_1, .slice A0_2 l0_2.length c0_2] 24 (0, 0)) BK714.out hb)
 have n1_ := Aside0.mk (below_step HB.out hb)
 clear BK714 HB
 have BK714 := n0_
 have HB := n1_
 clear n0_ n1_
 ((clear hb))
 refine hK.out _ _ ⟨(blk_cell BK714.out 0).trans rfl, (blk_cell BK714.out 1).trans rfl, (blk_cell BK714.out 2).trans rfl⟩ (fun hHeld => ?_)
 clear hK K
 refine norm_ (a' := ?_) ?_ ?_
 rotate_left
 ·show Act.put _ (some 11) _ = _
  simp only [Act.put, List.setIfInBounds_toArray, List.set_cons_zero, List.set_cons_succ, i64_w, i32_w]
  rfl
 refine one_ (i := 6) (N := some 13) (bm 9 127) rfl rfl (one_of HT_.out (by kernel_rfl)) (by decide) (fun K hK => ?_)
 refine goes_ Try.func87 (by kernel_rfl) rfl #[.agg #[.int .i64 a0_0, .int .i64 a0_1, .slice A0_2 l0_2.length c0_2], .int .i64 t715, .slice A2 l2.length c2] (by rfl) rfl rfl (by ((simp only [List.map_toArray, List.map_cons, List.map_nil])); (rfl)) ?_
 with_reducible refine (codewrightref05_Scale.calls k a0_0 a0_1 _ _ l0_2 t715 _ _ l2 t716 _ ?side1 ?side2 ?side3 ?side4 A5.out).mono ?_
 (case side1 => repeat ((exact (Kd.C_below HR0_2.out HB.out))))
 (case side2 => exact HC0_2.out)
 (case side3 => repeat ((exact (Kd.C_below HR2.out HB.out))))
 (case side4 => exact HC2.out)
 rintro e w10 ⟨v717, rfl, ho0, hb⟩
 refine ⟨_, rfl, ?_⟩
 have n0_ := Aside0.mk (Kd.R_lower ho0 (below_size HB.out))
 have n1_ := Aside0.mk (blk_below (g := gb714) (o := .cells #[.int .i64 a0_0, .int .i64 a0_1, .slice A0_2 l0_2.length c0_2] 24 (0, 0)) BK714.out hb)
 have n2_ := Aside0.mk (below_step HB.out hb)
 clear BK714 HB
 have HO718 := n0_
 have BK714 := n1_
 have HB := n2_
 clear n0_ n1_ n2_
 ((clear hb))
 ((clear ho0))
 obtain ⟨Ao11, co11, eo11⟩ := Kd.R_slice HO718.out
 ((subst eo11))
 refine hK.out _ _ ⟨(blk_cell BK714.out 0).trans rfl, (blk_cell BK714.out 1).trans rfl, (blk_cell BK714.out 2).trans rfl⟩ (fun hHeld => ?_)
 clear hK K
 refine norm_ (a' := ?_) ?_ ?_
 rotate_left
 ·show Act.put _ (some 13) _ = _
  simp only [Act.put, List.setIfInBounds_toArray, List.set_cons_zero, List.set_cons_succ, i64_w, i32_w]
  rfl
 refine one_ (i := 7) (N := some 14) (bm 9 255) rfl rfl (one_of HT_.out (by kernel_rfl)) (by decide) (fun K hK => ?_)
 refine goes_ Try.func96 (by kernel_rfl) rfl #[.agg #[.int .i64 a0_0, .int .i64 a0_1, .slice A0_2 l0_2.length c0_2], .slice A1 l1.length c1, .slice Ao11 t716.length co11] (by rfl) rfl rfl (by ((simp only [List.map_toArray, List.map_cons, List.map_nil])); (rfl)) ?_
 with_reducible refine (codewrightref05_Add.calls k a0_0 a0_1 _ _ l0_2 _ _ l1 _ _ t716 t719 _ ?side1 ?side2 ?side3 ?side4 ?side5 ?side6 A6.out).mono ?_
 (case side1 => repeat ((exact (Kd.C_below HR0_2.out HB.out))))
 (case side2 => exact HC0_2.out)
 (case side3 => repeat ((exact (Kd.C_below HR1.out HB.out))))
 (case side4 => exact HC1.out)
 (case side5 => repeat ((exact (Kd.R_reads' HO718.out).2.2)))
 (case side6 => exact (Kd.R_reads' HO718.out).2.1)
 rintro e w12 ⟨v720, rfl, ho0, hb⟩
 refine ⟨_, rfl, ?_⟩
 have n0_ := Aside0.mk (Kd.R_elder' HO718.out (Kd.R_base ho0) hb)
 have n1_ := Aside0.mk (Kd.R_lower (Kd.R_new' ho0 (Kd.R_lt HO718.out)) (below_size HB.out))
 have n2_ := Aside0.mk (blk_below (g := gb714) (o := .cells #[.int .i64 a0_0, .int .i64 a0_1, .slice A0_2 l0_2.length c0_2] 24 (0, 0)) BK714.out hb)
 have n3_ := Aside0.mk (below_step HB.out hb)
 clear HO718 BK714 HB
 have HO718 := n0_
 have HO721 := n1_
 have BK714 := n2_
 have HB := n3_
 clear n0_ n1_ n2_ n3_
 ((clear hb))
 ((clear ho0))
 refine hK.out _ _ ⟨(blk_cell BK714.out 0).trans rfl, (blk_cell BK714.out 1).trans rfl, (blk_cell BK714.out 2).trans rfl⟩ (fun hHeld => ?_)
 clear hK K
 refine norm_ (a' := ?_) ?_ ?_
 rotate_left
 ·show Act.put _ (some 14) _ = _
  simp only [Act.put, List.setIfInBounds_toArray, List.set_cons_zero, List.set_cons_succ, i64_w, i32_w]
  rfl
 refine pu_ 8 6 (bm 9 511) HT_ ?_
 refine done_ (done_of HT_.out (by kernel_rfl)) ?_
 (go_wp2)
 go_ret
 exact ⟨_, by rfl, by exact Kd.R_mono HO721.out (fun _ hk => trivial), by exact HB.out⟩
def codewrightref05_Power.f (a0 : Int) : Option (List Int) := if 0 ≤ (wrap64 (a0 + 1)) then (if (wrap64 (a0 + 1) : Int).toNat ≤ 35184372088832 then ((some (List.replicate (wrap64 (a0 + 1) : Int).toNat 0 : List Int)).bind fun y722 => (if 0 ≤ a0 then (if a0 < (y722.length : Int) then (some (y722.set (a0 : Int).toNat 1)) else (none)) else (none))) else (none)) else (none)
set_option maxHeartbeats 8000000 in
set_option maxRecDepth 100000 in
theorem codewrightref05_Power.calls (a0 : Int) (r : List Int) (w : World) (h : codewrightref05_Power.f a0 = some r) :
  Calls Try.prog 88 #[.int .i64 a0] w fun e w' => ∃ v0_ : Value, e = .returned (v0_) ∧ Kd.R (Kd.int .i64) 3 w' w.heap.size (fun _ => True) v0_ r ∧ Below w.heap.size w w' := by
 have HB := Aside0.mk (Below.refl w.heap.size w)
 have H : (if 0 ≤ (wrap64 (a0 + 1)) then (if (wrap64 (a0 + 1) : Int).toNat ≤ 35184372088832 then ((some (List.replicate (wrap64 (a0 + 1) : Int).toNat 0 : List Int)).bind fun y722 => (if 0 ≤ a0 then (if a0 < (y722.length : Int) then (some (y722.set (a0 : Int).toNat 1)) else (none)) else (none))) else (none)) else (none)) = some r := h
 clear h
 obtain ⟨ji2, hji2⟩ : ∃ j_ : Int, (wrap64 (a0 + 1)) = j_ := ⟨_, rfl⟩
 replace H : (if 0 ≤ (ji2) then (if (ji2 : Int).toNat ≤ 35184372088832 then ((some (List.replicate (ji2 : Int).toNat 0 : List Int)).bind fun y722 => (if 0 ≤ a0 then (if a0 < (y722.length : Int) then (some (y722.set (a0 : Int).toNat 1)) else (none)) else (none))) else (none)) else (none)) = some r := by (rw [hji2] at H; exact H)
 have hji2w : (IntKind.i64.wrap (a0 + 1)) = ji2 := (i64_w _).trans hji2
 by_cases c3 : 0 ≤ (ji2)
 ·rw [if_pos c3] at H
  have c3b0 := eq_true c3
  have c3b1 : decide (0 ≤ (ji2)) = true := decide_eq_true c3
  clear c3
  by_cases c4 : (ji2 : Int).toNat ≤ 35184372088832
  ·rw [if_pos c4] at H
   have c4b0 := eq_true c4
   have c4b1 : decide ((ji2 : Int).toNat ≤ 35184372088832) = true := decide_eq_true c4
   clear c4
   obtain ⟨y722, hy722⟩ : ∃ y_ : List Int, y_ = (List.replicate (ji2 : Int).toNat 0) := ⟨_, rfl⟩
   replace H : (if 0 ≤ a0 then (if a0 < (y722.length : Int) then (some (y722.set (a0 : Int).toNat 1)) else (none)) else (none)) = some r := by (have H2_ := (Option.bind_some _ _).symm.trans H; rw [hy722]; with_reducible exact H2_)
   have Ny722 := Aside0.mk hy722
   clear hy722
   by_cases c5 : 0 ≤ a0
   ·rw [if_pos c5] at H
    have c5b0 : decide (0 ≤ a0) = true := decide_eq_true c5
    clear c5
    by_cases c6 : a0 < (y722.length : Int)
    ·rw [if_pos c6] at H
     have c6b0 : decide (a0 < (y722.length : Int)) = true := decide_eq_true c6
     clear c6
     obtain ⟨y725, hy725⟩ : ∃ y_ : List Int, y_ = (y722.set (a0 : Int).toNat 1) := ⟨_, rfl⟩
     replace H : (some y725) = some r := by (rw [hy725]; with_reducible exact H)
     have Ny725 := Aside0.mk hy725
     clear hy725
     obtain rfl := Option.some.inj H
     go_enter Try.func88, Try.ntmps88
     go_wp2_with (first | ((with_reducible refine gate_dst (N := 6) rfl ?_); refine Kd.R_make (Kd.int .i64) _ 3 rfl (N := 6) rfl 22 _ _ rfl ji2 rfl rfl Try.underlying22 (.int .i64 0) 8 info3 rfl (by decide) (by omega) 0 (ok := fun _ => True) (okp := fun _ => True) rfl (fun _ hk => hk) trivial (of_decide_eq_true (by (with_reducible assumption))) (Nat.le_trans (Nat.mul_le_mul_right _ (of_decide_eq_true (by (with_reducible assumption)) : ji2.toNat ≤ 35184372088832)) (by omega)) (Below.refl _ _) (Nat.le_refl _) ?_; intro v723 w8 ho9 hb hg_ hnew_; clear hg_ hnew_; ((rw [← Ny722.out] at ho9)); have n0_ := Aside0.mk (Kd.R_lower ho9 (below_size HB.out)); have n1_ := Aside0.mk (below_step HB.out hb); clear HB; have HO724 := n0_; have HB := n1_; clear n0_ n1_; clear hb ho9; have p7 : 0 ≤ (a0 : Int) := of_decide_eq_true (by (with_reducible assumption)); have q7 : (a0 : Int) < ((y722.length : Int) : Int) := of_decide_eq_true (by (with_reducible assumption)); obtain ⟨go7, co7, eo7, gb7, gl7, cl7, HG7⟩ := Kd.R_form HO724.out (by omega); ((cases eo7)); have GB7 := Aside0.mk gb7; have GG7 := Aside0.mk HG7; clear gb7 gl7 HG7; obtain ⟨hx7_0, hf7_0⟩ := Kd.R_celln 0 HO724.out (a0 : Int) p7 q7; replace p7 := eq_true p7; replace q7 := eq_true q7; obtain ⟨hy10_, hz10_⟩ := Kd.R_celln 0 HO724.out (a0 : Int) (of_decide_eq_true (by (with_reducible assumption))) (of_decide_eq_true (by (with_reducible assumption))); have HP10 := Kd.R_putg HO724.out (a0 : Int) 1) | ((with_reducible refine gate_store (t := 3) (p := 9) rfl ?_); refine store_event (t := 3) (p := 9) (v := ?vo_w11) (w1 := (w8.setCell ⟨go7, (a0 : Int).toNat, none⟩ (.int .i64 1))) ?hg ?ho ?hn ?hr ?_; (case ho => rfl); (case hg => rfl); (case hn => rfl); (case hr => (go_simp; done)); intro w11 hw; have hg : w8.grownBy w11 (some go7) := (by rw [hw]; exact HP10.2); have hp_ : Kd.R (Kd.int .i64) 3 w11 w.heap.size (fun _ => True) (.slice (some ⟨go7, 0, none⟩) y722.length co7) y725 := (by rw [hw, Ny725.out]; exact HP10.1); clear HP10; have n0_ := Aside0.mk (hp_); have n1_ := Aside0.mk ((by rw [hw]; exact below_set (HB.out) GB7.out : Below w.heap.size w w11)); clear HO724; clear HB; have HO724 := n0_; have HB := n1_; clear n0_ n1_; clear hg hw hp_))
     go_ret
     exact ⟨_, by rfl, by exact HO724.out, by exact HB.out⟩
    ·rw [if_neg c6] at H
     exact absurd H (by simp)
   ·rw [if_neg c5] at H
    exact absurd H (by simp)
  ·rw [if_neg c4] at H
   exact absurd H (by simp)
 ·rw [if_neg c3] at H
  exact absurd H (by simp)
end Go.Proofs.Ytkdakjlopheefaa.PA
end
section
namespace Go.Proofs.Ytkdakjlopheefaa.PA
open Go.RowKit Go.Proofs.YtkdakjlopheefaaW.PrintWords Go.Proofs.YtkdakjlopheefaaW.PrintLast Go.Proofs.YtkdakjlopheefaaW.PrintMore
attribute [local go_sem] max2_int min2_int max_two min_two max_three min_three max_four min_four
set_option linter.unusedVariables false
set_option linter.unusedSimpArgs false
def codewrightref05_DivMod.l0 : Nat → List Int → List Int → Int → Int → List Int → Int → Int → List Int → Option (List Int × List Int)
 | 0, _, _, _, _, _, _, _, _ => none
 | k + 1, x2, x8, x9, x10, x11, x727000, x727001, x727002 => if (x8.length : Int) > x9 then (if 0 ≤ (wrap64 ((x8.length : Int) - 1)) then (if (wrap64 ((x8.length : Int) - 1)) < (x8.length : Int) then ((codewrightref04_Mul.f k x727000 x727001 x727002 (rd x8 (wrap64 ((x8.length : Int) - 1))) x10).bind fun t742 => (if 0 ≤ (wrap64 ((wrap64 ((x8.length : Int) - 1)) - x9)) then (if (wrap64 ((wrap64 ((x8.length : Int) - 1)) - x9)) < (x11.length : Int) then ((codewrightref05_Scale.f k x727000 x727001 x727002 t742 x2).bind fun t744 => ((codewrightref05_Power.f (wrap64 ((wrap64 ((x8.length : Int) - 1)) - x9))).bind fun t747 => ((codewrightref05_Mul.f k x727000 x727001 x727002 t744 t747).bind fun t750 => ((codewrightref05_Sub.f k x727000 x727001 x727002 x8 t750).bind fun t753 => (codewrightref05_DivMod.l0 k x2 t753 x9 x10 (x11.set ((wrap64 ((wrap64 ((x8.length : Int) - 1)) - x9)) : Int).toNat t742) x727000 x727001 x727002))))) else (none)) else (none))) else (none)) else (none)) else ((codewrightref05_Canon.f k x727000 x727001 x727002 x11).bind fun t738 => (some (t738, x8)))
def codewrightref05_DivMod.f (k : Nat) (a0_0 : Int) (a0_1 : Int) (l0_2 : List Int) (l1 : List Int) (l2 : List Int) : Option (List Int × List Int) := (codewrightref05_Canon.f k a0_0 a0_1 l0_2 l2).bind fun t727 => ((codewrightref05_Canon.f k a0_0 a0_1 l0_2 l1).bind fun t730 => (if 0 ≤ (wrap64 ((t727.length : Int) - 1)) then (if (wrap64 ((t727.length : Int) - 1)) < (t727.length : Int) then ((codewrightref04_Inv.f k a0_0 a0_1 l0_2 (rd t727 (wrap64 ((t727.length : Int) - 1)))).bind fun t734 => (if 0 ≤ (mx (wrap64 ((t730.length : Int) - (wrap64 ((t727.length : Int) - 1)))) 0) then (if (mx (wrap64 ((t730.length : Int) - (wrap64 ((t727.length : Int) - 1)))) 0 : Int).toNat ≤ 35184372088832 then (codewrightref05_DivMod.l0 k t727 t730 (wrap64 ((t727.length : Int) - 1)) t734 (List.replicate (mx (wrap64 ((t730.length : Int) - (wrap64 ((t727.length : Int) - 1)))) 0 : Int).toNat 0) a0_0 a0_1 l0_2) else (none)) else (none))) else (none)) else (none)))
def codewrightref05_DivMod.T8 : Bool × List (List Nat × List Nat) := (true, [([], []), ([], []), ([], []), ([2], [2]), ([3], [3]), ([1, 4], [1, 4]), ([5], [5]), ([], []), ([0, 6, 7], [0, 6, 7]), ([8, 8, 0, 1, 2, 3, 4, 5, 6, 7, 8], [8])])
def codewrightref05_DivMod.B8 : List Nat := [0, 0, 0, 4, 12, 30, 62, 0, 255, 511]
theorem codewrightref05_DivMod.tab8 : rtab .any (opsOf Try.f57 8) = codewrightref05_DivMod.T8 := by kernel_rfl
theorem codewrightref05_DivMod.bits8 : waitsOk codewrightref05_DivMod.T8.2 codewrightref05_DivMod.B8 = true := by kernel_rfl
def codewrightref05_DivMod.T10 : Bool × List (List Nat × List Nat) := (true, [([], []), ([], []), ([], []), ([], []), ([], []), ([], []), ([3, 4, 5], [3, 4, 5]), ([], []), ([7, 6], [7]), ([2, 6, 8, 8], [2, 6, 8]), ([0, 1, 9, 9], [0, 1, 9]), ([10, 10, 0, 1, 2, 3, 4, 5, 6, 7, 8, 9, 10], [1, 10])])
def codewrightref05_DivMod.B10 : List Nat := [0, 0, 0, 0, 0, 0, 56, 0, 248, 508, 1023, 2047]
theorem codewrightref05_DivMod.tab10 : rtab .any (opsOf Try.f57 10) = codewrightref05_DivMod.T10 := by kernel_rfl
theorem codewrightref05_DivMod.bits10 : waitsOk codewrightref05_DivMod.T10.2 codewrightref05_DivMod.B10 = true := by kernel_rfl
set_option maxHeartbeats 8000000 in
set_option maxRecDepth 100000 in
theorem codewrightref05_DivMod.calls (k : Nat) (a0_0 : Int) (a0_1 : Int) (A0_2 : Option Addr) (c0_2 : Nat) (l0_2 : List Int) (A1 : Option Addr) (c1 : Nat) (l1 : List Int) (A2 : Option Addr) (c2 : Nat) (l2 : List Int) (r1 : List Int) (r2 : List Int) (w : World) (hr0_2 : Kd.C (Kd.int .i64) w A0_2 l0_2.length l0_2) (hc0_2 : l0_2.length ≤ c0_2) (hr1 : Kd.C (Kd.int .i64) w A1 l1.length l1) (hc1 : l1.length ≤ c1) (hr2 : Kd.C (Kd.int .i64) w A2 l2.length l2) (hc2 : l2.length ≤ c2) (h : codewrightref05_DivMod.f k a0_0 a0_1 l0_2 l1 l2 = some (r1, r2)) :
  Calls Try.prog 57 #[.agg #[.int .i64 a0_0, .int .i64 a0_1, .slice A0_2 l0_2.length c0_2], .slice A1 l1.length c1, .slice A2 l2.length c2] w fun e w' => ∃ v0_ v1_ : Value, e = .returned (.tuple #[v0_, v1_]) ∧ Kd.R (Kd.int .i64) 3 w' w.heap.size (fun k_ => some k_ ≠ (v1_ : Value).ownBlock) v0_ r1 ∧ Kd.R (Kd.int .i64) 3 w' w.heap.size (fun k_ => some k_ ≠ (v0_ : Value).ownBlock) v1_ r2 ∧ Below w.heap.size w w' := by
 have hu24 := Try.underlying24
 have HR0_2 := Aside0.mk hr0_2
 have HC0_2 := Aside0.mk hc0_2
 clear hr0_2 hc0_2
 have HR1 := Aside0.mk hr1
 have HC1 := Aside0.mk hc1
 clear hr1 hc1
 have HR2 := Aside0.mk hr2
 have HC2 := Aside0.mk hc2
 clear hr2 hc2
 have HB := Aside0.mk (Below.refl w.heap.size w)
 have H : ((codewrightref05_Canon.f k a0_0 a0_1 l0_2 l2).bind fun t727 => ((codewrightref05_Canon.f k a0_0 a0_1 l0_2 l1).bind fun t730 => (if 0 ≤ (wrap64 ((t727.length : Int) - 1)) then (if (wrap64 ((t727.length : Int) - 1)) < (t727.length : Int) then ((codewrightref04_Inv.f k a0_0 a0_1 l0_2 (rd t727 (wrap64 ((t727.length : Int) - 1)))).bind fun t734 => (if 0 ≤ (mx (wrap64 ((t730.length : Int) - (wrap64 ((t727.length : Int) - 1)))) 0) then (if (mx (wrap64 ((t730.length : Int) - (wrap64 ((t727.length : Int) - 1)))) 0 : Int).toNat ≤ 35184372088832 then (codewrightref05_DivMod.l0 k t727 t730 (wrap64 ((t727.length : Int) - 1)) t734 (List.replicate (mx (wrap64 ((t730.length : Int) - (wrap64 ((t727.length : Int) - 1)))) 0 : Int).toNat 0) a0_0 a0_1 l0_2) else (none)) else (none))) else (none)) else (none)))) = some (r1, r2) := h
 clear h
 obtain ⟨t727, A40, H⟩ := Option.bind_eq_some_iff.mp H
 replace H : ((codewrightref05_Canon.f k a0_0 a0_1 l0_2 l1).bind fun t730 => (if 0 ≤ (wrap64 ((t727.length : Int) - 1)) then (if (wrap64 ((t727.length : Int) - 1)) < (t727.length : Int) then ((codewrightref04_Inv.f k a0_0 a0_1 l0_2 (rd t727 (wrap64 ((t727.length : Int) - 1)))).bind fun t734 => (if 0 ≤ (mx (wrap64 ((t730.length : Int) - (wrap64 ((t727.length : Int) - 1)))) 0) then (if (mx (wrap64 ((t730.length : Int) - (wrap64 ((t727.length : Int) - 1)))) 0 : Int).toNat ≤ 35184372088832 then (codewrightref05_DivMod.l0 k t727 t730 (wrap64 ((t727.length : Int) - 1)) t734 (List.replicate (mx (wrap64 ((t730.length : Int) - (wrap64 ((t727.length : Int) - 1)))) 0 : Int).toNat 0) a0_0 a0_1 l0_2) else (none)) else (none))) else (none)) else (none))) = some (r1, r2) := H
 have A4 := Aside0.mk A40
 clear A40
 obtain ⟨t730, A50, H⟩ := Option.bind_eq_some_iff.mp H
 replace H : (if 0 ≤ (wrap64 ((t727.length : Int) - 1)) then (if (wrap64 ((t727.length : Int) - 1)) < (t727.length : Int) then ((codewrightref04_Inv.f k a0_0 a0_1 l0_2 (rd t727 (wrap64 ((t727.length : Int) - 1)))).bind fun t734 => (if 0 ≤ (mx (wrap64 ((t730.length : Int) - (wrap64 ((t727.length : Int) - 1)))) 0) then (if (mx (wrap64 ((t730.length : Int) - (wrap64 ((t727.length : Int) - 1)))) 0 : Int).toNat ≤ 35184372088832 then (codewrightref05_DivMod.l0 k t727 t730 (wrap64 ((t727.length : Int) - 1)) t734 (List.replicate (mx (wrap64 ((t730.length : Int) - (wrap64 ((t727.length : Int) - 1)))) 0 : Int).toNat 0) a0_0 a0_1 l0_2) else (none)) else (none))) else (none)) else (none)) = some (r1, r2) := H
 have A5 := Aside0.mk A50
 clear A50
 obtain ⟨ji6, hji6⟩ : ∃ j_ : Int, (wrap64 ((t727.length : Int) - 1)) = j_ := ⟨_, rfl⟩
 replace H : (if 0 ≤ (ji6) then (if (ji6) < (t727.length : Int) then ((codewrightref04_Inv.f k a0_0 a0_1 l0_2 (rd t727 (ji6))).bind fun t734 => (if 0 ≤ (mx (wrap64 ((t730.length : Int) - (ji6))) 0) then (if (mx (wrap64 ((t730.length : Int) - (ji6))) 0 : Int).toNat ≤ 35184372088832 then (codewrightref05_DivMod.l0 k t727 t730 ji6 t734 (List.replicate (mx (wrap64 ((t730.length : Int) - (ji6))) 0 : Int).toNat 0) a0_0 a0_1 l0_2) else (none)) else (none))) else (none)) else (none)) = some (r1, r2) := by (rw [hji6] at H; exact H)
 have hji6w : (IntKind.i64.wrap ((t727.length : Int) - 1)) = ji6 := (i64_w _).trans hji6
 by_cases c7 : 0 ≤ (ji6)
 ·rw [if_pos c7] at H
  have c7b0 : decide (0 ≤ (ji6)) = true := decide_eq_true c7
  clear c7
  by_cases c8 : (ji6) < (t727.length : Int)
  ·rw [if_pos c8] at H
   have c8b0 : decide ((ji6) < (t727.length : Int)) = true := decide_eq_true c8
   clear c8
   obtain ⟨t734, A90, H⟩ := Option.bind_eq_some_iff.mp H
   replace H : (if 0 ≤ (mx (wrap64 ((t730.length : Int) - (ji6))) 0) then (if (mx (wrap64 ((t730.length : Int) - (ji6))) 0 : Int).toNat ≤ 35184372088832 then (codewrightref05_DivMod.l0 k t727 t730 ji6 t734 (List.replicate (mx (wrap64 ((t730.length : Int) - (ji6))) 0 : Int).toNat 0) a0_0 a0_1 l0_2) else (none)) else (none)) = some (r1, r2) := H
   have A9 := Aside0.mk A90
   clear A90
   obtain ⟨ji10, hji10⟩ : ∃ j_ : Int, (mx (wrap64 ((t730.length : Int) - (ji6))) 0) = j_ := ⟨_, rfl⟩
   replace H : (if 0 ≤ (ji10) then (if (ji10 : Int).toNat ≤ 35184372088832 then (codewrightref05_DivMod.l0 k t727 t730 ji6 t734 (List.replicate (ji10 : Int).toNat 0) a0_0 a0_1 l0_2) else (none)) else (none)) = some (r1, r2) := by (rw [hji10] at H; exact H)
   have hji10_ : (if (wrap64 ((t730.length : Int) - (ji6))) < 0 then 0 else (wrap64 ((t730.length : Int) - (ji6)))) = ji10 := hji10
   by_cases c11 : 0 ≤ (ji10)
   ·rw [if_pos c11] at H
    have c11b0 := eq_true c11
    have c11b1 : decide (0 ≤ (ji10)) = true := decide_eq_true c11
    clear c11
    by_cases c12 : (ji10 : Int).toNat ≤ 35184372088832
    ·rw [if_pos c12] at H
     have c12b0 := eq_true c12
     have c12b1 : decide ((ji10 : Int).toNat ≤ 35184372088832) = true := decide_eq_true c12
     clear c12
     obtain ⟨y735, hy735⟩ : ∃ y_ : List Int, y_ = (List.replicate (ji10 : Int).toNat 0) := ⟨_, rfl⟩
     replace H : (codewrightref05_DivMod.l0 k t727 t730 ji6 t734 y735 a0_0 a0_1 l0_2) = some (r1, r2) := by (rw [hy735]; with_reducible exact H)
     have Ny735 := Aside0.mk hy735
     clear hy735
     have H' := Aside0.mk H
     clear H
     go_enter Try.func57, Try.ntmps57
     (go_wp2_with (first | ((with_reducible refine gate_dst (N := 3) rfl ?_); refine box_event ?hg (N := 3) ?hd (cs := #[.int .i64 a0_0, .int .i64 a0_1, .slice A0_2 l0_2.length c0_2]) (t := 24) ?hr ?_; (case hd => rfl); (case hg => rfl); (case hr => (go_simp; done)); intro gb726 hg w13 hbox hb; have n0_ := Aside0.mk (below_step HB.out hb); have n1_ := Aside0.mk (hbox); have n2_ := Aside0.mk ((by rw [hg]; exact (below_size HB.out) : w.heap.size ≤ gb726)); have n3_ := Aside0.mk ((by rw [hg]; exact (below_size HB.out) : w.heap.size ≤ gb726)); clear HB; have HB := n0_; have BK726 := n1_; have GW726 := n2_; have GE726 := n3_; clear n0_ n1_ n2_ n3_; clear hb hbox hg; have hcz14_0 : w13.cell? ⟨gb726, 0, none⟩ = some (.int .i64 a0_0) := (blk_cell BK726.out 0).trans rfl; have hcz14_1 : w13.cell? ⟨gb726, 1, none⟩ = some (.int .i64 a0_1) := (blk_cell BK726.out 1).trans rfl; have hcz14_2 : w13.cell? ⟨gb726, 2, none⟩ = some (.slice A0_2 l0_2.length c0_2) := (blk_cell BK726.out 2).trans rfl; have hfz14_0 := blk_frozen BK726.out 0; have hfz14_1 := blk_frozen BK726.out 1; have hfz14_2 := blk_frozen BK726.out 2) | ((with_reducible refine gate_callee (f := 23) rfl ?_); refine goesL_ (some 16) rfl rfl Try.func23 (by kernel_rfl) rfl #[.agg #[.int .i64 a0_0, .int .i64 a0_1, .slice A0_2 l0_2.length c0_2], .slice A2 l2.length c2] rfl (by ((simp only [List.map_toArray, List.map_cons, List.map_nil])); (rfl)) ?_; (with_reducible refine (codewrightref05_Canon.calls k a0_0 a0_1 _ _ l0_2 _ _ l2 t727 _ ?side1 ?side2 ?side3 ?side4 A4.out).mono ?_); (case side1 => repeat ((exact (Kd.C_below HR0_2.out HB.out)))); (case side2 => exact HC0_2.out); (case side3 => repeat ((exact (Kd.C_below HR2.out HB.out)))); (case side4 => exact HC2.out); rintro e w15 ⟨v728, rfl, ho0, hb⟩; refine ⟨_, rfl, ?_⟩; have n0_ := Aside0.mk (Kd.R_lower ho0 (below_size HB.out)); have n1_ := Aside0.mk (blk_below (g := gb726) (o := .cells #[.int .i64 a0_0, .int .i64 a0_1, .slice A0_2 l0_2.length c0_2] 24 (0, 0)) BK726.out hb); have n2_ := Aside0.mk (below_step HB.out hb); clear BK726; clear HB; have HO729 := n0_; have BK726 := n1_; have HB := n2_; clear n0_ n1_ n2_; ((clear hb)); (skip); (skip); (skip); ((clear ho0)); have hcz16_0 : w15.cell? ⟨gb726, 0, none⟩ = some (.int .i64 a0_0) := (blk_cell BK726.out 0).trans rfl; have hcz16_1 : w15.cell? ⟨gb726, 1, none⟩ = some (.int .i64 a0_1) := (blk_cell BK726.out 1).trans rfl; have hcz16_2 : w15.cell? ⟨gb726, 2, none⟩ = some (.slice A0_2 l0_2.length c0_2) := (blk_cell BK726.out 2).trans rfl; have hfz16_0 := blk_frozen BK726.out 0; have hfz16_1 := blk_frozen BK726.out 1; have hfz16_2 := blk_frozen BK726.out 2) | ((with_reducible refine gate_callee (f := 23) rfl ?_); refine goesL_ (some 19) rfl rfl Try.func23 (by kernel_rfl) rfl #[.agg #[.int .i64 a0_0, .int .i64 a0_1, .slice A0_2 l0_2.length c0_2], .slice A1 l1.length c1] rfl (by ((simp only [List.map_toArray, List.map_cons, List.map_nil])); (rfl)) ?_; (with_reducible refine (codewrightref05_Canon.calls k a0_0 a0_1 _ _ l0_2 _ _ l1 t730 _ ?side1 ?side2 ?side3 ?side4 A5.out).mono ?_); (case side1 => repeat ((exact (Kd.C_below HR0_2.out HB.out)))); (case side2 => exact HC0_2.out); (case side3 => repeat ((exact (Kd.C_below HR1.out HB.out)))); (case side4 => exact HC1.out); rintro e w17 ⟨v731, rfl, ho0, hb⟩; refine ⟨_, rfl, ?_⟩; have n0_ := Aside0.mk (Kd.R_elder' HO729.out (Kd.R_base ho0) hb); have n1_ := Aside0.mk (Kd.R_lower (Kd.R_new' ho0 (Kd.R_lt HO729.out)) (below_size HB.out)); have n2_ := Aside0.mk (blk_below (g := gb726) (o := .cells #[.int .i64 a0_0, .int .i64 a0_1, .slice A0_2 l0_2.length c0_2] 24 (0, 0)) BK726.out hb); have n3_ := Aside0.mk (below_step HB.out hb); clear HO729; clear BK726; clear HB; have HO729 := n0_; have HO732 := n1_; have BK726 := n2_; have HB := n3_; clear n0_ n1_ n2_ n3_; ((clear hb)); (skip); (skip); (skip); ((clear ho0)); obtain ⟨Ao18, co18, eo18⟩ := Kd.R_slice HO729.out; subst eo18)))
     have n0_ := Aside0.mk (Kd.R_drew HO729.out)
     have n1_ := Aside0.mk (Kd.R_drew HO732.out)
     have n2_ := Aside0.mk (blk_drew BK726.out)
     have n3_ := Aside0.mk (below_drew1 HB.out)
     clear HO729 HO732 BK726 HB
     have HO729 := n0_
     have HO732 := n1_
     have BK726 := n2_
     have HB := n3_
     clear n0_ n1_ n2_ n3_
     have p733 : 0 ≤ ((ji6) : Int) := of_decide_eq_true (by (with_reducible assumption))
     have q733 : (ji6) < (t727.length : Int) := of_decide_eq_true (by (with_reducible assumption))
     obtain ⟨ad733, e733, hx733_0⟩ := Kd.at_int (Kd.R_reads' HO729.out).2.2 (ji6) p733 q733
     cases e733
     replace p733 := eq_true p733
     replace q733 := eq_true q733
     refine start_ (n := 7) (S := fun w' => w'.cell? ⟨gb726, 0, none⟩ = some (.int .i64 a0_0) ∧ w'.cell? ⟨gb726, 1, none⟩ = some (.int .i64 a0_1) ∧ w'.cell? ⟨gb726, 2, none⟩ = some (.slice A0_2 l0_2.length c0_2) ∧ w'.cell? (ad733.add ((ji6)).toNat) = some (.int .i64 (rd t727 (ji6)))) (ds := []) (bm 7 0) (by kernel_rfl) rfl rfl ⟨(blk_cell BK726.out 0).trans rfl, (blk_cell BK726.out 1).trans rfl, (blk_cell BK726.out 2).trans rfl, hx733_0⟩ (fun hHeld => ?_)
     generalize w17.drew = w19 at HO729 HO732 BK726 HB hx733_0 hHeld ⊢
     refine pure_ (i := 1) (N := some 24) (v := ?_) (a' := ?_) (bm 7 2) rfl rfl (by kernel_rfl) (fun _ _ _ h => h) (Or.inl ⟨by rfl, ?_⟩) ?_ ?_;rotate_left;(intro w';go_simp;with_reducible rfl);rotate_left;(simp only [ps_];rfl)
     refine pure_ (i := 2) (N := some 25) (v := ?_) (a' := ?_) (bm 7 6) rfl rfl (by kernel_rfl) (fun _ _ _ h => h) (Or.inl ⟨by rfl, ?_⟩) ?_ ?_;rotate_left;(intro w';go_simp;with_reducible rfl);rotate_left;(simp only [ps_];rfl)
     refine pure_ (i := 3) (N := some 26) (v := ?_) (a' := ?_) (bm 7 14) rfl rfl (by kernel_rfl) (fun _ _ _ h => h) (Or.inl ⟨by rfl, ?_⟩) ?_ ?_;rotate_left;(intro w';go_simp;with_reducible rfl);rotate_left;(simp only [ps_];rfl)
     refine take_ (i := 0) (N := some 23) (v := ?_) (a' := ?_) (bm 7 15) rfl rfl (by kernel_rfl) (fun _ _ _ h => h) (Or.inl ⟨by rfl, ?_⟩) hHeld ?_ ?_;rotate_left;(rintro w' ⟨s0, s1, s2, s3⟩;go_simp;with_reducible rfl);rotate_left;(simp only [ps_];rfl)
     refine take_ (i := 4) (N := some 27) (v := ?_) (a' := ?_) (bm 7 31) rfl rfl (by kernel_rfl) (fun _ _ _ h => h) (Or.inl ⟨by rfl, ?_⟩) hHeld ?_ ?_;rotate_left;(rintro w' ⟨s0, s1, s2, s3⟩;go_simp;with_reducible rfl);rotate_left;(simp only [ps_];rfl)
     refine one_ (i := 5) (N := some 28) (bm 7 63) rfl rfl (by kernel_rfl) (by decide) (fun K hK => ?_)
     refine goes_ Try.func64 (by kernel_rfl) rfl #[.agg #[.int .i64 a0_0, .int .i64 a0_1, .slice A0_2 l0_2.length c0_2], .int .i64 (rd t727 (ji6))] (by rfl) rfl rfl (by ((simp only [List.map_toArray, List.map_cons, List.map_nil])); (rfl)) ?_
     with_reducible refine (codewrightref04_Inv.calls k a0_0 a0_1 _ _ l0_2 (rd t727 (ji6)) t734 _ ?side1 ?side2 A9.out).mono ?_
     (case side1 => repeat ((exact (Kd.C_below HR0_2.out HB.out))))
     (case side2 => exact HC0_2.out)
     rintro e w20 ⟨rfl, hb⟩
     have HS3_ := (hb.cell (World.block_lt_of_cell? _ _ (hHeld.2.2.2))).trans (hHeld.2.2.2)
     refine ⟨_, rfl, ?_⟩
     have n0_ := Aside0.mk (Kd.R_below HO729.out hb)
     have n1_ := Aside0.mk (Kd.R_below HO732.out hb)
     have n2_ := Aside0.mk (blk_below (g := gb726) (o := .cells #[.int .i64 a0_0, .int .i64 a0_1, .slice A0_2 l0_2.length c0_2] 24 (0, 0)) BK726.out hb)
     have n3_ := Aside0.mk (below_step HB.out hb)
     clear HO729 HO732 BK726 HB
     have HO729 := n0_
     have HO732 := n1_
     have BK726 := n2_
     have HB := n3_
     clear n0_ n1_ n2_ n3_
     ((clear hb))
     refine hK.out _ _ ⟨(blk_cell BK726.out 0).trans rfl, (blk_cell BK726.out 1).trans rfl, (blk_cell BK726.out 2).trans rfl, HS3_⟩ (fun hHeld => ?_)
     clear hK K
     refine norm_ (a' := ?_) ?_ ?_
     rotate_left
     ·show Act.put _ (some 28) _ = _
      simp only [Act.put, List.setIfInBounds_toArray, List.set_cons_zero, List.set_cons_succ, i64_w, i32_w]
      rfl
     refine pure_ (i := 6) (N := some 10) (v := ?_) (a' := ?_) (bm 7 127) rfl rfl (by kernel_rfl) (fun _ _ _ h => h) (Or.inl ⟨by rfl, ?_⟩) ?_ ?_;rotate_left;(intro w';go_simp;with_reducible rfl);rotate_left;(simp only [ps_];rfl)
     refine done_ (by kernel_rfl) ?_
     obtain ⟨Ao21, co21, eo21⟩ := Kd.R_slice HO732.out
     subst eo21
     (go_wp2_with (((with_reducible refine gate_dst (N := 34) rfl ?_); refine Kd.R_make (Kd.int .i64) _ 3 rfl (N := 34) rfl 22 _ _ rfl ji10 rfl rfl Try.underlying22 (.int .i64 0) 8 info3 rfl (by decide) (by omega) 0 (ok := fun _ => True) (okp := fun _ => True) rfl (fun _ hk => hk) trivial (of_decide_eq_true (by (with_reducible assumption))) (Nat.le_trans (Nat.mul_le_mul_right _ (of_decide_eq_true (by (with_reducible assumption)) : ji10.toNat ≤ 35184372088832)) (by omega)) (Below.refl _ _) (Nat.le_refl _) ?_; intro v736 w22 ho23 hb hg_ hnew_; clear hg_ hnew_; ((rw [← Ny735.out] at ho23)); have n0_ := Aside0.mk (Kd.R_elder' HO729.out (Kd.R_base ho23) hb); have n1_ := Aside0.mk (Kd.R_elder' HO732.out (Kd.R_base ho23) hb); have n2_ := Aside0.mk (Kd.R_lower (Kd.R_new' (Kd.R_new' ho23 (Kd.R_lt HO729.out)) (Kd.R_lt HO732.out)) (below_size HB.out)); have n3_ := Aside0.mk (blk_below (g := gb726) (o := .cells #[.int .i64 a0_0, .int .i64 a0_1, .slice A0_2 l0_2.length c0_2] 24 (0, 0)) BK726.out hb); have n4_ := Aside0.mk (below_step HB.out hb); clear HO729; clear HO732; clear BK726; clear HB; have HO729 := n0_; have HO732 := n1_; have HO737 := n2_; have BK726 := n3_; have HB := n4_; clear n0_ n1_ n2_ n3_ n4_; clear hb ho23)))
     go_loopg [8] k (fun kq v8 w' => ∃ (x8_1 : List Int) (x11_1 : List Int), Aside0 (codewrightref05_DivMod.l0 kq t727 x8_1 ji6 t734 x11_1 a0_0 a0_1 l0_2 = some (r1, r2)) ∧ Aside0 (kq ≤ k) ∧ Aside0 (Kd.R (Kd.int .i64) 3 w' w.heap.size (fun k_ => some k_ ≠ (v8 : Value).ownBlock ∧ some k_ ≠ (v736 : Value).ownBlock) (.slice (some ad733) t727.length co18) t727) ∧ Aside0 (Kd.R (Kd.int .i64) 3 w' w.heap.size (fun k_ => some k_ ≠ ((.slice (some ad733) t727.length co18) : Value).ownBlock ∧ some k_ ≠ (v736 : Value).ownBlock) v8 x8_1) ∧ Aside0 (Kd.R (Kd.int .i64) 3 w' w.heap.size (fun k_ => some k_ ≠ ((.slice (some ad733) t727.length co18) : Value).ownBlock ∧ some k_ ≠ (v8 : Value).ownBlock) v736 x11_1) ∧ Aside0 (w'.heap[gb726]? = some (.cells #[.int .i64 a0_0, .int .i64 a0_1, (.slice A0_2 l0_2.length c0_2)] 24 (0, 0))) ∧ Aside0 (Below w.heap.size w w'))
     case atStart => exact ⟨(t730), (y735), H', ⟨Nat.le_refl _⟩, ⟨by exact Kd.R_mono HO729.out (fun _ hk => ⟨hk.1.2, hk.2⟩)⟩, ⟨by exact Kd.R_mono HO732.out (fun _ hk => ⟨hk.1.2, hk.2⟩)⟩, ⟨by exact Kd.R_mono HO737.out (fun _ hk => ⟨hk.1.2, hk.2⟩)⟩, ⟨BK726.out⟩, ⟨HB.out⟩⟩
     case round =>
      clear H' c7b0 c8b0 c11b0 c11b1 c12b0 c12b1 hcz14_0 hcz14_1 hcz14_2 hcz16_0 hcz16_1 hcz16_2 hfz14_0 hfz14_1 hfz14_2 hfz16_0 hfz16_1 hfz16_2 hx733_0 p733 q733
      obtain ⟨x8_1, x11_1, HA, HK1, HO_2, HO_8, HO_11, BK726, HB⟩ := hrel
      cases gk with
      | zero => exact absurd HA.out (by simp [codewrightref05_DivMod.l0])
      | succ k1 =>
       have H := HA.out
       clear HA
       simp only [codewrightref05_DivMod.l0] at H
       by_cases c24 : (x8_1.length : Int) > ji6
       ·rw [if_pos c24] at H
        have c24b0 : decide (ji6 < (x8_1.length : Int)) = true := decide_eq_true c24
        clear c24
        obtain ⟨ji25, hji25⟩ : ∃ j_ : Int, (wrap64 ((x8_1.length : Int) - 1)) = j_ := ⟨_, rfl⟩
        replace H : (if 0 ≤ (ji25) then (if (ji25) < (x8_1.length : Int) then ((codewrightref04_Mul.f k1 a0_0 a0_1 l0_2 (rd x8_1 (ji25)) t734).bind fun t742 => (if 0 ≤ (wrap64 ((ji25) - ji6)) then (if (wrap64 ((ji25) - ji6)) < (x11_1.length : Int) then ((codewrightref05_Scale.f k1 a0_0 a0_1 l0_2 t742 t727).bind fun t744 => ((codewrightref05_Power.f (wrap64 ((ji25) - ji6))).bind fun t747 => ((codewrightref05_Mul.f k1 a0_0 a0_1 l0_2 t744 t747).bind fun t750 => ((codewrightref05_Sub.f k1 a0_0 a0_1 l0_2 x8_1 t750).bind fun t753 => (codewrightref05_DivMod.l0 k1 t727 t753 ji6 t734 (x11_1.set ((wrap64 ((ji25) - ji6)) : Int).toNat t742) a0_0 a0_1 l0_2))))) else (none)) else (none))) else (none)) else (none)) = some (r1, r2) := by (rw [hji25] at H; exact H)
        have hji25w : (IntKind.i64.wrap ((x8_1.length : Int) - 1)) = ji25 := (i64_w _).trans hji25
        by_cases c26 : 0 ≤ (ji25)
        ·rw [if_pos c26] at H
         have c26b0 : decide (0 ≤ (ji25)) = true := decide_eq_true c26
         clear c26
         by_cases c27 : (ji25) < (x8_1.length : Int)
         ·rw [if_pos c27] at H
          have c27b0 : decide ((ji25) < (x8_1.length : Int)) = true := decide_eq_true c27
          clear c27
          obtain ⟨t742, A280, H⟩ := Option.bind_eq_some_iff.mp H
          replace H : (if 0 ≤ (wrap64 ((ji25) - ji6)) then (if (wrap64 ((ji25) - ji6)) < (x11_1.length : Int) then ((codewrightref05_Scale.f k1 a0_0 a0_1 l0_2 t742 t727).bind fun t744 => ((codewrightref05_Power.f (wrap64 ((ji25) - ji6))).bind fun t747 => ((codewrightref05_Mul.f k1 a0_0 a0_1 l0_2 t744 t747).bind fun t750 => ((codewrightref05_Sub.f k1 a0_0 a0_1 l0_2 x8_1 t750).bind fun t753 => (codewrightref05_DivMod.l0 k1 t727 t753 ji6 t734 (x11_1.set ((wrap64 ((ji25) - ji6)) : Int).toNat t742) a0_0 a0_1 l0_2))))) else (none)) else (none)) = some (r1, r2) := H
          have A28 := Aside0.mk A280
          clear A280
          obtain ⟨ji29, hji29⟩ : ∃ j_ : Int, (wrap64 ((ji25) - ji6)) = j_ := ⟨_, rfl⟩
          replace H : (if 0 ≤ (ji29) then (if (ji29) < (x11_1.length : Int) then ((codewrightref05_Scale.f k1 a0_0 a0_1 l0_2 t742 t727).bind fun t744 => ((codewrightref05_Power.f (ji29)).bind fun t747 => ((codewrightref05_Mul.f k1 a0_0 a0_1 l0_2 t744 t747).bind fun t750 => ((codewrightref05_Sub.f k1 a0_0 a0_1 l0_2 x8_1 t750).bind fun t753 => (codewrightref05_DivMod.l0 k1 t727 t753 ji6 t734 (x11_1.set ((ji29) : Int).toNat t742) a0_0 a0_1 l0_2))))) else (none)) else (none)) = some (r1, r2) := by (rw [hji29] at H; exact H)
          have hji29w : (IntKind.i64.wrap ((ji25) - ji6)) = ji29 := (i64_w _).trans hji29
          by_cases c30 : 0 ≤ (ji29)
          ·rw [if_pos c30] at H
           have c30b0 : decide (0 ≤ (ji29)) = true := decide_eq_true c30
           clear c30
           by_cases c31 : (ji29) < (x11_1.length : Int)
           ·rw [if_pos c31] at H
            have c31b0 : decide ((ji29) < (x11_1.length : Int)) = true := decide_eq_true c31
            clear c31
            obtain ⟨y743, hy743⟩ : ∃ y_ : List Int, y_ = (x11_1.set ((ji29) : Int).toNat t742) := ⟨_, rfl⟩
            replace H : ((codewrightref05_Scale.f k1 a0_0 a0_1 l0_2 t742 t727).bind fun t744 => ((codewrightref05_Power.f (ji29)).bind fun t747 => ((codewrightref05_Mul.f k1 a0_0 a0_1 l0_2 t744 t747).bind fun t750 => ((codewrightref05_Sub.f k1 a0_0 a0_1 l0_2 x8_1 t750).bind fun t753 => (codewrightref05_DivMod.l0 k1 t727 t753 ji6 t734 y743 a0_0 a0_1 l0_2))))) = some (r1, r2) := by (rw [hy743]; with_reducible exact H)
            have Ny743 := Aside0.mk hy743
            clear hy743
            obtain ⟨t744, A330, H⟩ := Option.bind_eq_some_iff.mp H
            replace H : ((codewrightref05_Power.f (ji29)).bind fun t747 => ((codewrightref05_Mul.f k1 a0_0 a0_1 l0_2 t744 t747).bind fun t750 => ((codewrightref05_Sub.f k1 a0_0 a0_1 l0_2 x8_1 t750).bind fun t753 => (codewrightref05_DivMod.l0 k1 t727 t753 ji6 t734 y743 a0_0 a0_1 l0_2)))) = some (r1, r2) := H
            have A33 := Aside0.mk A330
            clear A330
            obtain ⟨t747, A340, H⟩ := Option.bind_eq_some_iff.mp H
            replace H : ((codewrightref05_Mul.f k1 a0_0 a0_1 l0_2 t744 t747).bind fun t750 => ((codewrightref05_Sub.f k1 a0_0 a0_1 l0_2 x8_1 t750).bind fun t753 => (codewrightref05_DivMod.l0 k1 t727 t753 ji6 t734 y743 a0_0 a0_1 l0_2))) = some (r1, r2) := H
            have A34 := Aside0.mk A340
            clear A340
            obtain ⟨t750, A350, H⟩ := Option.bind_eq_some_iff.mp H
            replace H : ((codewrightref05_Sub.f k1 a0_0 a0_1 l0_2 x8_1 t750).bind fun t753 => (codewrightref05_DivMod.l0 k1 t727 t753 ji6 t734 y743 a0_0 a0_1 l0_2)) = some (r1, r2) := H
            have A35 := Aside0.mk A350
            clear A350
            obtain ⟨t753, A360, H⟩ := Option.bind_eq_some_iff.mp H
            replace H : (codewrightref05_DivMod.l0 k1 t727 t753 ji6 t734 y743 a0_0 a0_1 l0_2) = some (r1, r2) := H
            have A36 := Aside0.mk A360
            clear A360
            have H' := Aside0.mk H
            clear H
            obtain ⟨Ao37, co37, eo37⟩ := Kd.R_slice HO_8.out
            subst eo37
            (go_wp2)
            have n0_ := Aside0.mk (Kd.R_drew HO_2.out)
            have n1_ := Aside0.mk (Kd.R_drew HO_8.out)
            have n2_ := Aside0.mk (Kd.R_drew HO_11.out)
            have n3_ := Aside0.mk (blk_drew BK726.out)
            have n4_ := Aside0.mk (below_drew1 HB.out)
            clear HO_2 HO_8 HO_11 BK726 HB
            have HO_2 := n0_
            have HO_8 := n1_
            have HO_11 := n2_
            have BK726 := n3_
            have HB := n4_
            clear n0_ n1_ n2_ n3_ n4_
            have p741 : 0 ≤ ((ji25) : Int) := of_decide_eq_true (by (with_reducible assumption))
            have q741 : (ji25) < (x8_1.length : Int) := of_decide_eq_true (by (with_reducible assumption))
            obtain ⟨ad741, e741, hx741_0⟩ := Kd.at_int (Kd.R_reads' HO_8.out).2.2 (ji25) p741 q741
            cases e741
            replace p741 := eq_true p741
            replace q741 := eq_true q741
            refine start_ (n := 10) (S := fun w' => w'.cell? ⟨gb726, 0, none⟩ = some (.int .i64 a0_0) ∧ w'.cell? ⟨gb726, 1, none⟩ = some (.int .i64 a0_1) ∧ w'.cell? ⟨gb726, 2, none⟩ = some (.slice A0_2 l0_2.length c0_2) ∧ w'.cell? (ad741.add ((ji25)).toNat) = some (.int .i64 (rd x8_1 (ji25)))) (ds := []) (bm 10 0) (by kernel_rfl) rfl rfl ⟨(blk_cell BK726.out 0).trans rfl, (blk_cell BK726.out 1).trans rfl, (blk_cell BK726.out 2).trans rfl, hx741_0⟩ (fun hHeld => ?_); refine with_tabW codewrightref05_DivMod.tab8 codewrightref05_DivMod.bits8 (fun HT_ HW_ => ?_)
            generalize wr.drew = w38 at HO_2 HO_8 HO_11 BK726 HB hx741_0 hHeld ⊢
            refine pu_ 1 45 (bm 10 2) HT_ ?_
            refine pu_ 2 46 (bm 10 6) HT_ ?_
            refine pu_ 3 47 (bm 10 14) HT_ ?_
            refine pu_ 4 48 (bm 10 30) HT_ ?_
            refine pu_ 5 49 (bm 10 62) HT_ ?_
            refine pu_ 7 51 (bm 10 190) HT_ ?_
            refine take_ (i := 0) (N := some 44) (v := ?_) (a' := ?_) (bm 10 191) rfl rfl (take_ofW HT_.out HW_.out (by kernel_rfl)) (fun _ _ _ h => h) (Or.inl ⟨by rfl, ?_⟩) hHeld ?_ ?_;rotate_left;(rintro w' ⟨s0, s1, s2, s3⟩;go_simp;with_reducible rfl);rotate_left;(simp only [ps_];rfl)
            refine take_ (i := 6) (N := some 50) (v := ?_) (a' := ?_) (bm 10 255) rfl rfl (take_ofW HT_.out HW_.out (by kernel_rfl)) (fun _ _ _ h => h) (Or.inl ⟨by rfl, ?_⟩) hHeld ?_ ?_;rotate_left;(rintro w' ⟨s0, s1, s2, s3⟩;go_simp;with_reducible rfl);rotate_left;(simp only [ps_];rfl)
            refine one_ (i := 8) (N := some 52) (bm 10 511) rfl rfl (one_of HT_.out (by kernel_rfl)) (by decide) (fun K hK => ?_)
            refine goes_ Try.func38 (by kernel_rfl) rfl #[.agg #[.int .i64 a0_0, .int .i64 a0_1, .slice A0_2 l0_2.length c0_2], .int .i64 (rd x8_1 (ji25)), .int .i64 t734] (by rfl) rfl rfl (by ((simp only [List.map_toArray, List.map_cons, List.map_nil])); (rfl)) ?_
            with_reducible refine (codewrightref04_Mul.calls k1 a0_0 a0_1 _ _ l0_2 (rd x8_1 (ji25)) t734 t742 _ ?side1 ?side2 A28.out).mono ?_
            (case side1 => repeat ((exact (Kd.C_below HR0_2.out HB.out))))
            (case side2 => exact HC0_2.out)
            rintro e w39 ⟨rfl, hb⟩
            have HS3_ := (hb.cell (World.block_lt_of_cell? _ _ (hHeld.2.2.2))).trans (hHeld.2.2.2)
            refine ⟨_, rfl, ?_⟩
            have n0_ := Aside0.mk (Kd.R_below HO_2.out hb)
            have n1_ := Aside0.mk (Kd.R_below HO_8.out hb)
            have n2_ := Aside0.mk (Kd.R_below HO_11.out hb)
            have n3_ := Aside0.mk (blk_below (g := gb726) (o := .cells #[.int .i64 a0_0, .int .i64 a0_1, .slice A0_2 l0_2.length c0_2] 24 (0, 0)) BK726.out hb)
            have n4_ := Aside0.mk (below_step HB.out hb)
            clear HO_2 HO_8 HO_11 BK726 HB
            have HO_2 := n0_
            have HO_8 := n1_
            have HO_11 := n2_
            have BK726 := n3_
            have HB := n4_
            clear n0_ n1_ n2_ n3_ n4_
            ((clear hb))
            refine hK.out _ _ ⟨(blk_cell BK726.out 0).trans rfl, (blk_cell BK726.out 1).trans rfl, (blk_cell BK726.out 2).trans rfl, HS3_⟩ (fun hHeld => ?_)
            clear hK K
            refine norm_ (a' := ?_) ?_ ?_
            rotate_left
            ·show Act.put _ (some 52) _ = _
             simp only [Act.put, List.setIfInBounds_toArray, List.set_cons_zero, List.set_cons_succ, i64_w, i32_w]
             rfl
            refine pu_ 9 13 (bm 10 1023) HT_ ?_
            refine done_ (done_of HT_.out (by kernel_rfl)) ?_
            have p32 : 0 ≤ ((ji29) : Int) := of_decide_eq_true (by (with_reducible assumption))
            have q32 : ((ji29) : Int) < ((x11_1.length : Int) : Int) := of_decide_eq_true (by (with_reducible assumption))
            obtain ⟨go32, co32, eo32, gb32, gl32, cl32, HG32⟩ := Kd.R_form HO_11.out (by omega)
            ((cases eo32))
            have GB32 := Aside0.mk gb32
            have GG32 := Aside0.mk HG32
            clear gb32 gl32 HG32
            obtain ⟨hx32_0, hf32_0⟩ := Kd.R_celln 0 HO_11.out ((ji29) : Int) p32 q32
            replace p32 := eq_true p32
            replace q32 := eq_true q32
            obtain ⟨hy40_, hz40_⟩ := Kd.R_celln 0 HO_11.out ((ji29) : Int) (of_decide_eq_true (by (with_reducible assumption))) (of_decide_eq_true (by (with_reducible assumption)))
            have HP40 := Kd.R_putg HO_11.out ((ji29) : Int) t742
            (go_wp2_with (((with_reducible refine gate_store (t := 3) (p := 56) rfl ?_); refine store_event (t := 3) (p := 56) (v := ?vo_w41) (w1 := (w39.setCell ⟨go32, ((ji29) : Int).toNat, none⟩ (.int .i64 t742))) ?hg ?ho ?hn ?hr ?_; (case ho => rfl); (case hg => rfl); (case hn => rfl); (case hr => (go_simp; done)); intro w41 hw; have hg : w39.grownBy w41 (some go32) := (by rw [hw]; exact HP40.2); have hp_ : Kd.R (Kd.int .i64) 3 w41 w.heap.size (fun k_ => some k_ ≠ (.slice (some ad733) t727.length co18 : Value).ownBlock ∧ some k_ ≠ (.slice (some ad741) x8_1.length co37 : Value).ownBlock) (.slice (some ⟨go32, 0, none⟩) x11_1.length co32) y743 := (by rw [hw, Ny743.out]; exact HP40.1); clear HP40; have n0_ := Aside0.mk (Kd.R_after (v := (.slice (some ⟨go32, 0, none⟩) x11_1.length co32)) (v1 := (.slice (some ⟨go32, 0, none⟩) x11_1.length co32)) (ok := (fun k_ => some k_ ≠ (.slice (some ad741) x8_1.length co37 : Value).ownBlock)) HO_2.out hg (.inl rfl)); have n1_ := Aside0.mk (Kd.R_after (v := (.slice (some ⟨go32, 0, none⟩) x11_1.length co32)) (v1 := (.slice (some ⟨go32, 0, none⟩) x11_1.length co32)) (ok := (fun k_ => some k_ ≠ (.slice (some ad733) t727.length co18 : Value).ownBlock)) HO_8.out hg (.inl rfl)); have n2_ := Aside0.mk (hp_); have n3_ := Aside0.mk (blk_grown (g := gb726) (o := .cells #[.int .i64 a0_0, .int .i64 a0_1, .slice A0_2 l0_2.length c0_2] 24 (0, 0)) BK726.out hg (Kd.R_ne HO_11.out BK726.out (by decide))); have n4_ := Aside0.mk ((by rw [hw]; exact below_set (HB.out) GB32.out : Below w.heap.size w w41)); clear HO_2; clear HO_8; clear HO_11; clear BK726; clear HB; have HO_2 := n0_; have HO_8 := n1_; have HO_11 := n2_; have BK726 := n3_; have HB := n4_; clear n0_ n1_ n2_ n3_ n4_; clear hg hw hp_)))
            have n0_ := Aside0.mk (Kd.R_drew HO_2.out)
            have n1_ := Aside0.mk (Kd.R_drew HO_8.out)
            have n2_ := Aside0.mk (Kd.R_drew HO_11.out)
            have n3_ := Aside0.mk (blk_drew BK726.out)
            have n4_ := Aside0.mk (below_drew1 HB.out)
            clear HO_2 HO_8 HO_11 BK726 HB
            have HO_2 := n0_
            have HO_8 := n1_
            have HO_11 := n2_
            have BK726 := n3_
            have HB := n4_
            clear n0_ n1_ n2_ n3_ n4_
            refine start_ (n := 12) (S := fun w' => w'.cell? ⟨gb726, 0, none⟩ = some (.int .i64 a0_0) ∧ w'.cell? ⟨gb726, 1, none⟩ = some (.int .i64 a0_1) ∧ w'.cell? ⟨gb726, 2, none⟩ = some (.slice A0_2 l0_2.length c0_2)) (ds := []) (bm 12 0) (by kernel_rfl) rfl rfl ⟨(blk_cell BK726.out 0).trans rfl, (blk_cell BK726.out 1).trans rfl, (blk_cell BK726.out 2).trans rfl⟩ (fun hHeld => ?_); refine with_tabW codewrightref05_DivMod.tab10 codewrightref05_DivMod.bits10 (fun HT_ HW_ => ?_)
            generalize w41.drew = w42 at HO_2 HO_8 HO_11 BK726 HB hHeld ⊢
            refine pu_ 1 58 (bm 12 2) HT_ ?_
            refine pu_ 4 61 (bm 12 18) HT_ ?_
            refine pu_ 5 62 (bm 12 50) HT_ ?_
            refine pu_ 7 64 (bm 12 178) HT_ ?_
            refine take_ (i := 0) (N := some 57) (v := ?_) (a' := ?_) (bm 12 179) rfl rfl (take_ofW HT_.out HW_.out (by kernel_rfl)) (fun _ _ _ h => h) (Or.inl ⟨by rfl, ?_⟩) hHeld ?_ ?_;rotate_left;(rintro w' ⟨s0, s1, s2⟩;go_simp;with_reducible rfl);rotate_left;(simp only [ps_];rfl)
            refine take_ (i := 2) (N := some 59) (v := ?_) (a' := ?_) (bm 12 183) rfl rfl (take_ofW HT_.out HW_.out (by kernel_rfl)) (fun _ _ _ h => h) (Or.inl ⟨by rfl, ?_⟩) hHeld ?_ ?_;rotate_left;(rintro w' ⟨s0, s1, s2⟩;go_simp;with_reducible rfl);rotate_left;(simp only [ps_];rfl)
            refine take_ (i := 3) (N := some 60) (v := ?_) (a' := ?_) (bm 12 191) rfl rfl (take_ofW HT_.out HW_.out (by kernel_rfl)) (fun _ _ _ h => h) (Or.inl ⟨by rfl, ?_⟩) hHeld ?_ ?_;rotate_left;(rintro w' ⟨s0, s1, s2⟩;go_simp;with_reducible rfl);rotate_left;(simp only [ps_];rfl)
            refine one_ (i := 6) (N := some 63) (bm 12 255) rfl rfl (one_of HT_.out (by kernel_rfl)) (by decide) (fun K hK => ?_)
            refine goes_ Try.func87 (by kernel_rfl) rfl #[.agg #[.int .i64 a0_0, .int .i64 a0_1, .slice A0_2 l0_2.length c0_2], .int .i64 t742, .slice (some ad733) t727.length co18] (by rfl) rfl rfl (by ((simp only [List.map_toArray, List.map_cons, List.map_nil])); (rfl)) ?_
            with_reducible refine (codewrightref05_Scale.calls k1 a0_0 a0_1 _ _ l0_2 t742 _ _ t727 t744 _ ?side1 ?side2 ?side3 ?side4 A33.out).mono ?_
            (case side1 => repeat ((exact (Kd.C_below HR0_2.out HB.out))))
            (case side2 => exact HC0_2.out)
            (case side3 => repeat ((exact (Kd.R_reads' HO_2.out).2.2)))
            (case side4 => exact (Kd.R_reads' HO_2.out).2.1)
            rintro e w43 ⟨v745, rfl, ho0, hb⟩
            refine ⟨_, rfl, ?_⟩
            have n0_ := Aside0.mk (Kd.R_elder' HO_2.out (Kd.R_base ho0) hb)
            have n1_ := Aside0.mk (Kd.R_elder' HO_8.out (Kd.R_base ho0) hb)
            have n2_ := Aside0.mk (Kd.R_elder' HO_11.out (Kd.R_base ho0) hb)
            have n3_ := Aside0.mk (Kd.R_lower (Kd.R_new' (Kd.R_new' (Kd.R_new' ho0 (Kd.R_lt HO_2.out)) (Kd.R_lt HO_8.out)) (Kd.R_lt HO_11.out)) (below_size HB.out))
            have n4_ := Aside0.mk (blk_below (g := gb726) (o := .cells #[.int .i64 a0_0, .int .i64 a0_1, .slice A0_2 l0_2.length c0_2] 24 (0, 0)) BK726.out hb)
            have n5_ := Aside0.mk (below_step HB.out hb)
            clear HO_2 HO_8 HO_11 BK726 HB
            have HO_2 := n0_
            have HO_8 := n1_
            have HO_11 := n2_
            have HO746 := n3_
            have BK726 := n4_
            have HB := n5_
            clear n0_ n1_ n2_ n3_ n4_ n5_
            ((clear hb))
            ((clear ho0))
            refine hK.out _ _ ⟨(blk_cell BK726.out 0).trans rfl, (blk_cell BK726.out 1).trans rfl, (blk_cell BK726.out 2).trans rfl⟩ (fun hHeld => ?_)
            clear hK K
            refine norm_ (a' := ?_) ?_ ?_
            rotate_left
            ·show Act.put _ (some 63) _ = _
             simp only [Act.put, List.setIfInBounds_toArray, List.set_cons_zero, List.set_cons_succ, i64_w, i32_w]
             rfl
            refine one_ (i := 8) (N := some 65) (bm 12 511) rfl rfl (one_of HT_.out (by kernel_rfl)) (by decide) (fun K hK => ?_)
            refine goes_ Try.func88 (by kernel_rfl) rfl #[.int .i64 ji29] (by rfl) rfl rfl (by ((simp only [List.map_toArray, List.map_cons, List.map_nil])); (rfl)) ?_
            with_reducible refine (codewrightref05_Power.calls ji29 t747 _ A34.out).mono ?_
            rintro e w44 ⟨v748, rfl, ho0, hb⟩
            refine ⟨_, rfl, ?_⟩
            have n0_ := Aside0.mk (Kd.R_elder' HO_2.out (Kd.R_base ho0) hb)
            have n1_ := Aside0.mk (Kd.R_elder' HO_8.out (Kd.R_base ho0) hb)
            have n2_ := Aside0.mk (Kd.R_elder' HO_11.out (Kd.R_base ho0) hb)
            have n3_ := Aside0.mk (Kd.R_elder' HO746.out (Kd.R_base ho0) hb)
            have n4_ := Aside0.mk (Kd.R_lower (Kd.R_new' (Kd.R_new' (Kd.R_new' (Kd.R_new' ho0 (Kd.R_lt HO_2.out)) (Kd.R_lt HO_8.out)) (Kd.R_lt HO_11.out)) (Kd.R_lt HO746.out)) (below_size HB.out))
            have n5_ := Aside0.mk (blk_below (g := gb726) (o := .cells #[.int .i64 a0_0, .int .i64 a0_1, .slice A0_2 l0_2.length c0_2] 24 (0, 0)) BK726.out hb)
            have n6_ := Aside0.mk (below_step HB.out hb)
            clear HO_2 HO_8 HO_11 HO746 BK726 HB
            have HO_2 := n0_
            have HO_8 := n1_
            have HO_11 := n2_
            have HO746 := n3_
            have HO749 := n4_
            have BK726 := n5_
            have HB := n6_
            clear n0_ n1_ n2_ n3_ n4_ n5_ n6_
            ((clear hb))
            ((clear ho0))
            obtain ⟨Ao45, co45, eo45⟩ := Kd.R_slice HO746.out
            ((subst eo45))
            obtain ⟨Ao46, co46, eo46⟩ := Kd.R_slice HO749.out
            ((subst eo46))
            refine hK.out _ _ ⟨(blk_cell BK726.out 0).trans rfl, (blk_cell BK726.out 1).trans rfl, (blk_cell BK726.out 2).trans rfl⟩ (fun hHeld => ?_)
            clear hK K
            refine norm_ (a' := ?_) ?_ ?_
            rotate_left
            ·show Act.put _ (some 65) _ = _
             simp only [Act.put, List.setIfInBounds_toArray, List.set_cons_zero, List.set_cons_succ, i64_w, i32_w]
             rfl
            refine one_ (i := 9) (N := some 66) (bm 12 1023) rfl rfl (one_of HT_.out (by kernel_rfl)) (by decide) (fun K hK => ?_)
            refine goes_ Try.func28 (by kernel_rfl) rfl #[.agg #[.int .i64 a0_0, .int .i64 a0_1, .slice A0_2 l0_2.length c0_2], .slice Ao45 t744.length co45, .slice Ao46 t747.length co46] (by rfl) rfl rfl (by ((simp only [List.map_toArray, List.map_cons, List.map_nil])); (rfl)) ?_
            with_reducible refine (codewrightref05_Mul.calls k1 a0_0 a0_1 _ _ l0_2 _ _ t744 _ _ t747 t750 _ ?side1 ?side2 ?side3 ?side4 ?side5 ?side6 A35.out).mono ?_
            (case side1 => repeat ((exact (Kd.C_below HR0_2.out HB.out))))
            (case side2 => exact HC0_2.out)
            (case side3 => repeat ((exact (Kd.R_reads' HO746.out).2.2)))
            (case side4 => exact (Kd.R_reads' HO746.out).2.1)
            (case side5 => repeat ((exact (Kd.R_reads' HO749.out).2.2)))
            (case side6 => exact (Kd.R_reads' HO749.out).2.1)
            rintro e w47 ⟨v751, rfl, ho0, hb⟩
            refine ⟨_, rfl, ?_⟩
            have n0_ := Aside0.mk (Kd.R_elder' HO_2.out (Kd.R_base ho0) hb)
            have n1_ := Aside0.mk (Kd.R_elder' HO_8.out (Kd.R_base ho0) hb)
            have n2_ := Aside0.mk (Kd.R_elder' HO_11.out (Kd.R_base ho0) hb)
            have n3_ := Aside0.mk (Kd.R_elder' HO746.out (Kd.R_base ho0) hb)
            have n4_ := Aside0.mk (Kd.R_elder' HO749.out (Kd.R_base ho0) hb)
            have n5_ := Aside0.mk (Kd.R_lower (Kd.R_new' (Kd.R_new' (Kd.R_new' (Kd.R_new' (Kd.R_new' ho0 (Kd.R_lt HO_2.out)) (Kd.R_lt HO_8.out)) (Kd.R_lt HO_11.out)) (Kd.R_lt HO746.out)) (Kd.R_lt HO749.out)) (below_size HB.out))
            have n6_ := Aside0.mk (blk_below (g := gb726) (o := .cells #[.int .i64 a0_0, .int .i64 a0_1, .slice A0_2 l0_2.length c0_2] 24 (0, 0)) BK726.out hb)
            have n7_ := Aside0.mk (below_step HB.out hb)
            clear HO_2 HO_8 HO_11 HO746 HO749 BK726 HB
            have HO_2 := n0_
            have HO_8 := n1_
            have HO_11 := n2_
            have HO746 := n3_
            have HO749 := n4_
            have HO752 := n5_
            have BK726 := n6_
            have HB := n7_
            clear n0_ n1_ n2_ n3_ n4_ n5_ n6_ n7_
            ((clear hb))
            ((clear ho0))
            obtain ⟨Ao48, co48, eo48⟩ := Kd.R_slice HO752.out
            ((subst eo48))
            refine hK.out _ _ ⟨(blk_cell BK726.out 0).trans rfl, (blk_cell BK726.out 1).trans rfl, (blk_cell BK726.out 2).trans rfl⟩ (fun hHeld => ?_)
            clear hK K
            refine norm_ (a' := ?_) ?_ ?_
            rotate_left
            ·show Act.put _ (some 66) _ = _
             simp only [Act.put, List.setIfInBounds_toArray, List.set_cons_zero, List.set_cons_succ, i64_w, i32_w]
             rfl
            refine one_ (i := 10) (N := some 67) (bm 12 2047) rfl rfl (one_of HT_.out (by kernel_rfl)) (by decide) (fun K hK => ?_)
            refine goes_ Try.func86 (by kernel_rfl) rfl #[.agg #[.int .i64 a0_0, .int .i64 a0_1, .slice A0_2 l0_2.length c0_2], .slice (some ad741) x8_1.length co37, .slice Ao48 t750.length co48] (by rfl) rfl rfl (by ((simp only [List.map_toArray, List.map_cons, List.map_nil])); (rfl)) ?_
            with_reducible refine (codewrightref05_Sub.calls k1 a0_0 a0_1 _ _ l0_2 _ _ x8_1 _ _ t750 t753 _ ?side1 ?side2 ?side3 ?side4 ?side5 ?side6 A36.out).mono ?_
            (case side1 => repeat ((exact (Kd.C_below HR0_2.out HB.out))))
            (case side2 => exact HC0_2.out)
            (case side3 => repeat ((exact (Kd.R_reads' HO_8.out).2.2)))
            (case side4 => exact (Kd.R_reads' HO_8.out).2.1)
            (case side5 => repeat ((exact (Kd.R_reads' HO752.out).2.2)))
            (case side6 => exact (Kd.R_reads' HO752.out).2.1)
            rintro e w49 ⟨v754, rfl, ho0, hb⟩
            refine ⟨_, rfl, ?_⟩
            have n0_ := Aside0.mk (Kd.R_elder' HO_2.out (Kd.R_base ho0) hb)
            have n1_ := Aside0.mk (Kd.R_elder' HO_8.out (Kd.R_base ho0) hb)
            have n2_ := Aside0.mk (Kd.R_elder' HO_11.out (Kd.R_base ho0) hb)
            have n3_ := Aside0.mk (Kd.R_elder' HO746.out (Kd.R_base ho0) hb)
            have n4_ := Aside0.mk (Kd.R_elder' HO749.out (Kd.R_base ho0) hb)
            have n5_ := Aside0.mk (Kd.R_elder' HO752.out (Kd.R_base ho0) hb)
            have n6_ := Aside0.mk (Kd.R_lower (Kd.R_new' (Kd.R_new' (Kd.R_new' (Kd.R_new' (Kd.R_new' (Kd.R_new' ho0 (Kd.R_lt HO_2.out)) (Kd.R_lt HO_8.out)) (Kd.R_lt HO_11.out)) (Kd.R_lt HO746.out)) (Kd.R_lt HO749.out)) (Kd.R_lt HO752.out)) (below_size HB.out))
            have n7_ := Aside0.mk (blk_below (g := gb726) (o := .cells #[.int .i64 a0_0, .int .i64 a0_1, .slice A0_2 l0_2.length c0_2] 24 (0, 0)) BK726.out hb)
            have n8_ := Aside0.mk (below_step HB.out hb)
            clear HO_2 HO_8 HO_11 HO746 HO749 HO752 BK726 HB
            have HO_2 := n0_
            have HO_8 := n1_
            have HO_11 := n2_
            have HO746 := n3_
            have HO749 := n4_
            have HO752 := n5_
            have HO755 := n6_
            have BK726 := n7_
            have HB := n8_
            clear n0_ n1_ n2_ n3_ n4_ n5_ n6_ n7_ n8_
            ((clear hb))
            ((clear ho0))
            refine hK.out _ _ ⟨(blk_cell BK726.out 0).trans rfl, (blk_cell BK726.out 1).trans rfl, (blk_cell BK726.out 2).trans rfl⟩ (fun hHeld => ?_)
            clear hK K
            refine norm_ (a' := ?_) ?_ ?_
            rotate_left
            ·show Act.put _ (some 67) _ = _
             simp only [Act.put, List.setIfInBounds_toArray, List.set_cons_zero, List.set_cons_succ, i64_w, i32_w]
             rfl
            refine pu_ 11 8 (bm 12 4095) HT_ ?_
            refine done_ (done_of HT_.out (by kernel_rfl)) ?_
            (go_wp2)
            go_roundg k1
            case measure => have := HK1.out; omega
            case rel => exact ⟨(t753), (y743), H', ⟨by have := HK1.out; omega⟩, ⟨by exact Kd.R_mono HO_2.out (fun _ hk => ⟨hk.2, hk.1.1.1.1.2⟩)⟩, ⟨by exact Kd.R_mono HO755.out (fun _ hk => ⟨hk.1.1.1.1.1.2, hk.1.1.1.2⟩)⟩, ⟨by exact Kd.R_mono HO_11.out (fun _ hk => ⟨hk.1.1.1.1.1, hk.2⟩)⟩, ⟨BK726.out⟩, ⟨HB.out⟩⟩
           ·rw [if_neg c31] at H
            exact absurd H (by simp)
          ·rw [if_neg c30] at H
           exact absurd H (by simp)
         ·rw [if_neg c27] at H
          exact absurd H (by simp)
        ·rw [if_neg c26] at H
         exact absurd H (by simp)
       ·rw [if_neg c24] at H
        have c24b0 : decide (ji6 < (x8_1.length : Int)) = false := decide_eq_false c24
        clear c24
        obtain ⟨t738, A500, H⟩ := Option.bind_eq_some_iff.mp H
        replace H : (some (t738, x8_1)) = some (r1, r2) := H
        have A50 := Aside0.mk A500
        clear A500
        simp only [Option.some.injEq, Prod.mk.injEq] at H
        obtain ⟨rfl, rfl⟩ := H
        obtain ⟨Ao51, co51, eo51⟩ := Kd.R_slice HO_8.out
        subst eo51
        have hcz52_0 : wr.cell? ⟨gb726, 0, none⟩ = some (.int .i64 a0_0) := (blk_cell BK726.out 0).trans rfl
        have hcz52_1 : wr.cell? ⟨gb726, 1, none⟩ = some (.int .i64 a0_1) := (blk_cell BK726.out 1).trans rfl
        have hcz52_2 : wr.cell? ⟨gb726, 2, none⟩ = some (.slice A0_2 l0_2.length c0_2) := (blk_cell BK726.out 2).trans rfl
        have hfz52_0 := blk_frozen BK726.out 0
        have hfz52_1 := blk_frozen BK726.out 1
        have hfz52_2 := blk_frozen BK726.out 2
        obtain ⟨Ao53, co53, eo53⟩ := Kd.R_slice HO_11.out
        subst eo53
        go_wp2_with (((with_reducible refine gate_callee (f := 23) rfl ?_); refine goesL_ (some 70) rfl rfl Try.func23 (by kernel_rfl) rfl #[.agg #[.int .i64 a0_0, .int .i64 a0_1, .slice A0_2 l0_2.length c0_2], .slice Ao53 x11_1.length co53] rfl (by ((simp only [List.map_toArray, List.map_cons, List.map_nil])); (rfl)) ?_; (with_reducible refine (codewrightref05_Canon.calls k1 a0_0 a0_1 _ _ l0_2 _ _ x11_1 t738 _ ?side1 ?side2 ?side3 ?side4 A50.out).mono ?_); (case side1 => repeat ((exact (Kd.C_below HR0_2.out HB.out)))); (case side2 => exact HC0_2.out); (case side3 => repeat ((exact (Kd.R_reads' HO_11.out).2.2))); (case side4 => exact (Kd.R_reads' HO_11.out).2.1); rintro e w54 ⟨v739, rfl, ho0, hb⟩; refine ⟨_, rfl, ?_⟩; have n0_ := Aside0.mk (Kd.R_elder' HO_2.out (Kd.R_base ho0) hb); have n1_ := Aside0.mk (Kd.R_elder' HO_8.out (Kd.R_base ho0) hb); have n2_ := Aside0.mk (Kd.R_elder' HO_11.out (Kd.R_base ho0) hb); have n3_ := Aside0.mk (Kd.R_lower (Kd.R_new' (Kd.R_new' (Kd.R_new' ho0 (Kd.R_lt HO_2.out)) (Kd.R_lt HO_8.out)) (Kd.R_lt HO_11.out)) (below_size HB.out)); have n4_ := Aside0.mk (blk_below (g := gb726) (o := .cells #[.int .i64 a0_0, .int .i64 a0_1, .slice A0_2 l0_2.length c0_2] 24 (0, 0)) BK726.out hb); have n5_ := Aside0.mk (below_step HB.out hb); clear HO_2; clear HO_8; clear HO_11; clear BK726; clear HB; have HO_2 := n0_; have HO_8 := n1_; have HO_11 := n2_; have HO740 := n3_; have BK726 := n4_; have HB := n5_; clear n0_ n1_ n2_ n3_ n4_ n5_; ((clear hb)); (skip); (skip); (skip); ((clear ho0))))
        go_ret2
        exact ⟨_, _, by rfl, by exact Kd.R_mono HO740.out (fun _ hk => hk.1.2), by exact Kd.R_mono HO_8.out (fun _ hk => hk.2), by exact HB.out⟩
    ·rw [if_neg c12] at H
     exact absurd H (by simp)
   ·rw [if_neg c11] at H
    exact absurd H (by simp)
  ·rw [if_neg c8] at H
   exact absurd H (by simp)
 ·rw [if_neg c7] at H
  exact absurd H (by simp)
end Go.Proofs.Ytkdakjlopheefaa.PA
end
section
namespace Go.Proofs.Ytkdakjlopheefaa.PA
open Go.RowKit Go.Proofs.YtkdakjlopheefaaW.PrintWords Go.Proofs.YtkdakjlopheefaaW.PrintLast Go.Proofs.YtkdakjlopheefaaW.PrintMore
attribute [local go_sem] max2_int min2_int max_two min_two max_three min_three max_four min_four
set_option linter.unusedVariables false
set_option linter.unusedSimpArgs false
def codewrightref05_Monic.f (k : Nat) (a0_0 : Int) (a0_1 : Int) (l0_2 : List Int) (l1 : List Int) : Option (List Int) := (codewrightref05_Canon.f k a0_0 a0_1 l0_2 l1).bind fun t757 => (if (t757.length : Int) = 0 then (some t757) else (if 0 ≤ (wrap64 ((t757.length : Int) - 1)) then (if (wrap64 ((t757.length : Int) - 1)) < (t757.length : Int) then ((codewrightref04_Inv.f k a0_0 a0_1 l0_2 (rd t757 (wrap64 ((t757.length : Int) - 1)))).bind fun t761 => ((codewrightref05_Scale.f k a0_0 a0_1 l0_2 t761 t757).bind fun t762 => (some t762))) else (none)) else (none)))
def codewrightref05_Monic.T4 : Bool × List (List Nat × List Nat) := (true, [([], []), ([], []), ([], []), ([], []), ([3], [3]), ([4], [4]), ([2, 5], [2, 5]), ([6], [6]), ([1, 7], [1, 7]), ([], []), ([0, 8, 9, 8], [0, 8, 9]), ([10, 10, 0, 1, 2, 3, 4, 5, 6, 7, 8, 9, 10], [10])])
def codewrightref05_Monic.B4 : List Nat := [0, 0, 0, 0, 8, 24, 60, 124, 254, 0, 1023, 2047]
theorem codewrightref05_Monic.tab4 : rtab .any (opsOf Try.f58 4) = codewrightref05_Monic.T4 := by kernel_rfl
theorem codewrightref05_Monic.bits4 : waitsOk codewrightref05_Monic.T4.2 codewrightref05_Monic.B4 = true := by kernel_rfl
set_option maxHeartbeats 8000000 in
set_option maxRecDepth 100000 in
theorem codewrightref05_Monic.calls (k : Nat) (a0_0 : Int) (a0_1 : Int) (A0_2 : Option Addr) (c0_2 : Nat) (l0_2 : List Int) (A1 : Option Addr) (c1 : Nat) (l1 : List Int) (r : List Int) (w : World) (hr0_2 : Kd.C (Kd.int .i64) w A0_2 l0_2.length l0_2) (hc0_2 : l0_2.length ≤ c0_2) (hr1 : Kd.C (Kd.int .i64) w A1 l1.length l1) (hc1 : l1.length ≤ c1) (h : codewrightref05_Monic.f k a0_0 a0_1 l0_2 l1 = some r) :
  Calls Try.prog 58 #[.agg #[.int .i64 a0_0, .int .i64 a0_1, .slice A0_2 l0_2.length c0_2], .slice A1 l1.length c1] w fun e w' => ∃ v0_ : Value, e = .returned (v0_) ∧ Kd.R (Kd.int .i64) 3 w' w.heap.size (fun _ => True) v0_ r ∧ Below w.heap.size w w' := by
 have hu24 := Try.underlying24
 have HR0_2 := Aside0.mk hr0_2
 have HC0_2 := Aside0.mk hc0_2
 clear hr0_2 hc0_2
 have HR1 := Aside0.mk hr1
 have HC1 := Aside0.mk hc1
 clear hr1 hc1
 have HB := Aside0.mk (Below.refl w.heap.size w)
 have H : ((codewrightref05_Canon.f k a0_0 a0_1 l0_2 l1).bind fun t757 => (if (t757.length : Int) = 0 then (some t757) else (if 0 ≤ (wrap64 ((t757.length : Int) - 1)) then (if (wrap64 ((t757.length : Int) - 1)) < (t757.length : Int) then ((codewrightref04_Inv.f k a0_0 a0_1 l0_2 (rd t757 (wrap64 ((t757.length : Int) - 1)))).bind fun t761 => ((codewrightref05_Scale.f k a0_0 a0_1 l0_2 t761 t757).bind fun t762 => (some t762))) else (none)) else (none)))) = some r := h
 clear h
 obtain ⟨t757, A30, H⟩ := Option.bind_eq_some_iff.mp H
 replace H : (if (t757.length : Int) = 0 then (some t757) else (if 0 ≤ (wrap64 ((t757.length : Int) - 1)) then (if (wrap64 ((t757.length : Int) - 1)) < (t757.length : Int) then ((codewrightref04_Inv.f k a0_0 a0_1 l0_2 (rd t757 (wrap64 ((t757.length : Int) - 1)))).bind fun t761 => ((codewrightref05_Scale.f k a0_0 a0_1 l0_2 t761 t757).bind fun t762 => (some t762))) else (none)) else (none))) = some r := H
 have A3 := Aside0.mk A30
 clear A30
 by_cases c4 : (t757.length : Int) = 0
 ·rw [if_pos c4] at H
  have c4b0 : ((t757.length : Int) == 0) = true := beq_iff_eq.mpr c4
  have c4b1 : ((t757.length : Int) != 0) = false := bne_eq_false_iff_eq.mpr c4
  clear c4
  obtain rfl := Option.some.inj H
  go_enter Try.func58, Try.ntmps58
  go_wp2_with (first | ((with_reducible refine gate_dst (N := 2) rfl ?_); refine box_event ?hg (N := 2) ?hd (cs := #[.int .i64 a0_0, .int .i64 a0_1, .slice A0_2 l0_2.length c0_2]) (t := 24) ?hr ?_; (case hd => rfl); (case hg => rfl); (case hr => (go_simp; done)); intro gb756 hg w5 hbox hb; have n0_ := Aside0.mk (below_step HB.out hb); have n1_ := Aside0.mk (hbox); have n2_ := Aside0.mk ((by rw [hg]; exact (below_size HB.out) : w.heap.size ≤ gb756)); have n3_ := Aside0.mk ((by rw [hg]; exact (below_size HB.out) : w.heap.size ≤ gb756)); clear HB; have HB := n0_; have BK756 := n1_; have GW756 := n2_; have GE756 := n3_; clear n0_ n1_ n2_ n3_; clear hb hbox hg; have hcz6_0 : w5.cell? ⟨gb756, 0, none⟩ = some (.int .i64 a0_0) := (blk_cell BK756.out 0).trans rfl; have hcz6_1 : w5.cell? ⟨gb756, 1, none⟩ = some (.int .i64 a0_1) := (blk_cell BK756.out 1).trans rfl; have hcz6_2 : w5.cell? ⟨gb756, 2, none⟩ = some (.slice A0_2 l0_2.length c0_2) := (blk_cell BK756.out 2).trans rfl; have hfz6_0 := blk_frozen BK756.out 0; have hfz6_1 := blk_frozen BK756.out 1; have hfz6_2 := blk_frozen BK756.out 2) | ((with_reducible refine gate_callee (f := 23) rfl ?_); refine goesL_ (some 7) rfl rfl Try.func23 (by kernel_rfl) rfl #[.agg #[.int .i64 a0_0, .int .i64 a0_1, .slice A0_2 l0_2.length c0_2], .slice A1 l1.length c1] rfl (by ((simp only [List.map_toArray, List.map_cons, List.map_nil])); (rfl)) ?_; (with_reducible refine (codewrightref05_Canon.calls k a0_0 a0_1 _ _ l0_2 _ _ l1 t757 _ ?side1 ?side2 ?side3 ?side4 A3.out).mono ?_); (case side1 => repeat ((exact (Kd.C_below HR0_2.out HB.out)))); (case side2 => exact HC0_2.out); (case side3 => repeat ((exact (Kd.C_below HR1.out HB.out)))); (case side4 => exact HC1.out); rintro e w7 ⟨v758, rfl, ho0, hb⟩; refine ⟨_, rfl, ?_⟩; have n0_ := Aside0.mk (Kd.R_lower ho0 (below_size HB.out)); have n1_ := Aside0.mk (blk_below (g := gb756) (o := .cells #[.int .i64 a0_0, .int .i64 a0_1, .slice A0_2 l0_2.length c0_2] 24 (0, 0)) BK756.out hb); have n2_ := Aside0.mk (below_step HB.out hb); clear BK756; clear HB; have HO759 := n0_; have BK756 := n1_; have HB := n2_; clear n0_ n1_ n2_; ((clear hb)); (skip); (skip); (skip); ((clear ho0)); obtain ⟨Ao8, co8, eo8⟩ := Kd.R_slice HO759.out; subst eo8))
  go_ret
  exact ⟨_, by rfl, by exact HO759.out, by exact HB.out⟩
 ·rw [if_neg c4] at H
  have c4b0 : ((t757.length : Int) == 0) = false := beq_eq_false_iff_ne.mpr c4
  have c4b1 : ((t757.length : Int) != 0) = true := bne_iff_ne.mpr c4
  have c4b2 : ¬ (t757 = []) := fun h_ => c4 (by rw [h_]; rfl)
  obtain ⟨ji9, hji9⟩ : ∃ j_ : Int, (wrap64 ((t757.length : Int) - 1)) = j_ := ⟨_, rfl⟩
  replace H : (if 0 ≤ (ji9) then (if (ji9) < (t757.length : Int) then ((codewrightref04_Inv.f k a0_0 a0_1 l0_2 (rd t757 (ji9))).bind fun t761 => ((codewrightref05_Scale.f k a0_0 a0_1 l0_2 t761 t757).bind fun t762 => (some t762))) else (none)) else (none)) = some r := by (rw [hji9] at H; exact H)
  have hji9w : (IntKind.i64.wrap ((t757.length : Int) - 1)) = ji9 := (i64_w _).trans hji9
  by_cases c10 : 0 ≤ (ji9)
  ·rw [if_pos c10] at H
   have c10b0 : decide (0 ≤ (ji9)) = true := decide_eq_true c10
   clear c10
   by_cases c11 : (ji9) < (t757.length : Int)
   ·rw [if_pos c11] at H
    have c11b0 : decide ((ji9) < (t757.length : Int)) = true := decide_eq_true c11
    clear c11
    obtain ⟨t761, A120, H⟩ := Option.bind_eq_some_iff.mp H
    replace H : ((codewrightref05_Scale.f k a0_0 a0_1 l0_2 t761 t757).bind fun t762 => (some t762)) = some r := H
    have A12 := Aside0.mk A120
    clear A120
    obtain ⟨t762, A130, H⟩ := Option.bind_eq_some_iff.mp H
    replace H : (some t762) = some r := H
    have A13 := Aside0.mk A130
    clear A130
    obtain rfl := Option.some.inj H
    go_enter Try.func58, Try.ntmps58
    (go_wp2_with (first | ((with_reducible refine gate_dst (N := 2) rfl ?_); refine box_event ?hg (N := 2) ?hd (cs := #[.int .i64 a0_0, .int .i64 a0_1, .slice A0_2 l0_2.length c0_2]) (t := 24) ?hr ?_; (case hd => rfl); (case hg => rfl); (case hr => (go_simp; done)); intro gb756 hg w14 hbox hb; have n0_ := Aside0.mk (below_step HB.out hb); have n1_ := Aside0.mk (hbox); have n2_ := Aside0.mk ((by rw [hg]; exact (below_size HB.out) : w.heap.size ≤ gb756)); have n3_ := Aside0.mk ((by rw [hg]; exact (below_size HB.out) : w.heap.size ≤ gb756)); clear HB; have HB := n0_; have BK756 := n1_; have GW756 := n2_; have GE756 := n3_; clear n0_ n1_ n2_ n3_; clear hb hbox hg; have hcz15_0 : w14.cell? ⟨gb756, 0, none⟩ = some (.int .i64 a0_0) := (blk_cell BK756.out 0).trans rfl; have hcz15_1 : w14.cell? ⟨gb756, 1, none⟩ = some (.int .i64 a0_1) := (blk_cell BK756.out 1).trans rfl; have hcz15_2 : w14.cell? ⟨gb756, 2, none⟩ = some (.slice A0_2 l0_2.length c0_2) := (blk_cell BK756.out 2).trans rfl; have hfz15_0 := blk_frozen BK756.out 0; have hfz15_1 := blk_frozen BK756.out 1; have hfz15_2 := blk_frozen BK756.out 2) | ((with_reducible refine gate_callee (f := 23) rfl ?_); refine goesL_ (some 7) rfl rfl Try.func23 (by kernel_rfl) rfl #[.agg #[.int .i64 a0_0, .int .i64 a0_1, .slice A0_2 l0_2.length c0_2], .slice A1 l1.length c1] rfl (by ((simp only [List.map_toArray, List.map_cons, List.map_nil])); (rfl)) ?_; (with_reducible refine (codewrightref05_Canon.calls k a0_0 a0_1 _ _ l0_2 _ _ l1 t757 _ ?side1 ?side2 ?side3 ?side4 A3.out).mono ?_); (case side1 => repeat ((exact (Kd.C_below HR0_2.out HB.out)))); (case side2 => exact HC0_2.out); (case side3 => repeat ((exact (Kd.C_below HR1.out HB.out)))); (case side4 => exact HC1.out); rintro e w16 ⟨v758, rfl, ho0, hb⟩; refine ⟨_, rfl, ?_⟩; have n0_ := Aside0.mk (Kd.R_lower ho0 (below_size HB.out)); have n1_ := Aside0.mk (blk_below (g := gb756) (o := .cells #[.int .i64 a0_0, .int .i64 a0_1, .slice A0_2 l0_2.length c0_2] 24 (0, 0)) BK756.out hb); have n2_ := Aside0.mk (below_step HB.out hb); clear BK756; clear HB; have HO759 := n0_; have BK756 := n1_; have HB := n2_; clear n0_ n1_ n2_; ((clear hb)); (skip); (skip); (skip); ((clear ho0)); obtain ⟨Ao17, co17, eo17⟩ := Kd.R_slice HO759.out; subst eo17)))
    have n0_ := Aside0.mk (Kd.R_drew HO759.out)
    have n1_ := Aside0.mk (blk_drew BK756.out)
    have n2_ := Aside0.mk (below_drew1 HB.out)
    clear HO759 BK756 HB
    have HO759 := n0_
    have BK756 := n1_
    have HB := n2_
    clear n0_ n1_ n2_
    have p760 : 0 ≤ ((ji9) : Int) := of_decide_eq_true (by (with_reducible assumption))
    have q760 : (ji9) < (t757.length : Int) := of_decide_eq_true (by (with_reducible assumption))
    obtain ⟨ad760, e760, hx760_0⟩ := Kd.at_int (Kd.R_reads' HO759.out).2.2 (ji9) p760 q760
    cases e760
    replace p760 := eq_true p760
    replace q760 := eq_true q760
    refine start_ (n := 12) (S := fun w' => w'.cell? ⟨gb756, 0, none⟩ = some (.int .i64 a0_0) ∧ w'.cell? ⟨gb756, 1, none⟩ = some (.int .i64 a0_1) ∧ w'.cell? ⟨gb756, 2, none⟩ = some (.slice A0_2 l0_2.length c0_2) ∧ w'.cell? (ad760.add ((ji9)).toNat) = some (.int .i64 (rd t757 (ji9)))) (ds := []) (bm 12 0) (by kernel_rfl) rfl rfl ⟨(blk_cell BK756.out 0).trans rfl, (blk_cell BK756.out 1).trans rfl, (blk_cell BK756.out 2).trans rfl, hx760_0⟩ (fun hHeld => ?_); refine with_tabW codewrightref05_Monic.tab4 codewrightref05_Monic.bits4 (fun HT_ HW_ => ?_)
    generalize w16.drew = w18 at HO759 BK756 HB hx760_0 hHeld ⊢
    refine pu_ 2 14 (bm 12 4) HT_ ?_
    refine pu_ 3 15 (bm 12 12) HT_ ?_
    refine pu_ 4 16 (bm 12 28) HT_ ?_
    refine pu_ 5 17 (bm 12 60) HT_ ?_
    refine pu_ 6 18 (bm 12 124) HT_ ?_
    refine pu_ 9 21 (bm 12 636) HT_ ?_
    refine take_ (i := 0) (N := some 12) (v := ?_) (a' := ?_) (bm 12 637) rfl rfl (take_ofW HT_.out HW_.out (by kernel_rfl)) (fun _ _ _ h => h) (Or.inl ⟨by rfl, ?_⟩) hHeld ?_ ?_;rotate_left;(rintro w' ⟨s0, s1, s2, s3⟩;go_simp;with_reducible rfl);rotate_left;(simp only [ps_];rfl)
    refine take_ (i := 1) (N := some 13) (v := ?_) (a' := ?_) (bm 12 639) rfl rfl (take_ofW HT_.out HW_.out (by kernel_rfl)) (fun _ _ _ h => h) (Or.inl ⟨by rfl, ?_⟩) hHeld ?_ ?_;rotate_left;(rintro w' ⟨s0, s1, s2, s3⟩;go_simp;with_reducible rfl);rotate_left;(simp only [ps_];rfl)
    refine take_ (i := 7) (N := some 19) (v := ?_) (a' := ?_) (bm 12 767) rfl rfl (take_ofW HT_.out HW_.out (by kernel_rfl)) (fun _ _ _ h => h) (Or.inl ⟨by rfl, ?_⟩) hHeld ?_ ?_;rotate_left;(rintro w' ⟨s0, s1, s2, s3⟩;go_simp;with_reducible rfl);rotate_left;(simp only [ps_];rfl)
    refine one_ (i := 8) (N := some 20) (bm 12 1023) rfl rfl (one_of HT_.out (by kernel_rfl)) (by decide) (fun K hK => ?_)
    refine goes_ Try.func64 (by kernel_rfl) rfl #[.agg #[.int .i64 a0_0, .int .i64 a0_1, .slice A0_2 l0_2.length c0_2], .int .i64 (rd t757 (ji9))] (by rfl) rfl rfl (by ((simp only [List.map_toArray, List.map_cons, List.map_nil])); (rfl)) ?_
    with_reducible refine (codewrightref04_Inv.calls k a0_0 a0_1 _ _ l0_2 (rd t757 (ji9)) t761 _ ?side1 ?side2 A12.out).mono ?_
    (case side1 => repeat ((exact (Kd.C_below HR0_2.out HB.out))))
    (case side2 => exact HC0_2.out)
    rintro e w19 ⟨rfl, hb⟩
    have HS3_ := (hb.cell (World.block_lt_of_cell? _ _ (hHeld.2.2.2))).trans (hHeld.2.2.2)
    refine ⟨_, rfl, ?_⟩
    have n0_ := Aside0.mk (Kd.R_below HO759.out hb)
    have n1_ := Aside0.mk (blk_below (g := gb756) (o := .cells #[.int .i64 a0_0, .int .i64 a0_1, .slice A0_2 l0_2.length c0_2] 24 (0, 0)) BK756.out hb)
    have n2_ := Aside0.mk (below_step HB.out hb)
    clear HO759 BK756 HB
    have HO759 := n0_
    have BK756 := n1_
    have HB := n2_
    clear n0_ n1_ n2_
    ((clear hb))
    refine hK.out _ _ ⟨(blk_cell BK756.out 0).trans rfl, (blk_cell BK756.out 1).trans rfl, (blk_cell BK756.out 2).trans rfl, HS3_⟩ (fun hHeld => ?_)
    clear hK K
    refine norm_ (a' := ?_) ?_ ?_
    rotate_left
    ·show Act.put _ (some 20) _ = _
     simp only [Act.put, List.setIfInBounds_toArray, List.set_cons_zero, List.set_cons_succ, i64_w, i32_w]
     rfl
    refine one_ (i := 10) (N := some 22) (bm 12 2047) rfl rfl (one_of HT_.out (by kernel_rfl)) (by decide) (fun K hK => ?_)
    refine goes_ Try.func87 (by kernel_rfl) rfl #[.agg #[.int .i64 a0_0, .int .i64 a0_1, .slice A0_2 l0_2.length c0_2], .int .i64 t761, .slice (some ad760) t757.length co17] (by rfl) rfl rfl (by ((simp only [List.map_toArray, List.map_cons, List.map_nil])); (rfl)) ?_
    with_reducible refine (codewrightref05_Scale.calls k a0_0 a0_1 _ _ l0_2 t761 _ _ t757 t762 _ ?side1 ?side2 ?side3 ?side4 A13.out).mono ?_
    (case side1 => repeat ((exact (Kd.C_below HR0_2.out HB.out))))
    (case side2 => exact HC0_2.out)
    (case side3 => repeat ((exact (Kd.R_reads' HO759.out).2.2)))
    (case side4 => exact (Kd.R_reads' HO759.out).2.1)
    rintro e w20 ⟨v763, rfl, ho0, hb⟩
    have HS3_ := (hb.cell (World.block_lt_of_cell? _ _ (hHeld.2.2.2))).trans (hHeld.2.2.2)
    refine ⟨_, rfl, ?_⟩
    have n0_ := Aside0.mk (Kd.R_elder' HO759.out (Kd.R_base ho0) hb)
    have n1_ := Aside0.mk (Kd.R_lower (Kd.R_new' ho0 (Kd.R_lt HO759.out)) (below_size HB.out))
    have n2_ := Aside0.mk (blk_below (g := gb756) (o := .cells #[.int .i64 a0_0, .int .i64 a0_1, .slice A0_2 l0_2.length c0_2] 24 (0, 0)) BK756.out hb)
    have n3_ := Aside0.mk (below_step HB.out hb)
    clear HO759 BK756 HB
    have HO759 := n0_
    have HO764 := n1_
    have BK756 := n2_
    have HB := n3_
    clear n0_ n1_ n2_ n3_
    ((clear hb))
    ((clear ho0))
    refine hK.out _ _ ⟨(blk_cell BK756.out 0).trans rfl, (blk_cell BK756.out 1).trans rfl, (blk_cell BK756.out 2).trans rfl, HS3_⟩ (fun hHeld => ?_)
    clear hK K
    refine norm_ (a' := ?_) ?_ ?_
    rotate_left
    ·show Act.put _ (some 22) _ = _
     simp only [Act.put, List.setIfInBounds_toArray, List.set_cons_zero, List.set_cons_succ, i64_w, i32_w]
     rfl
    refine pu_ 11 4 (bm 12 4095) HT_ ?_
    refine done_ (done_of HT_.out (by kernel_rfl)) ?_
    (go_wp2)
    go_ret
    exact ⟨_, by rfl, by exact Kd.R_mono HO764.out (fun _ hk => trivial), by exact HB.out⟩
   ·rw [if_neg c11] at H
    exact absurd H (by simp)
  ·rw [if_neg c10] at H
   exact absurd H (by simp)
def codewrightref05_Gcd.l0 : Nat → List Int → List Int → Int → Int → List Int → Option (List Int)
 | 0, _, _, _, _, _ => none
 | k + 1, x1, x2, x766000, x766001, x766002 => if (x2.length : Int) > 0 then ((codewrightref05_DivMod.f k x766000 x766001 x766002 x1 x2).bind fun bt772 => (codewrightref05_Gcd.l0 k x2 bt772.2 x766000 x766001 x766002)) else ((codewrightref05_Monic.f k x766000 x766001 x766002 x1).bind fun t778 => (some t778))
def codewrightref05_Gcd.f (k : Nat) (a0_0 : Int) (a0_1 : Int) (l0_2 : List Int) (l1 : List Int) (l2 : List Int) : Option (List Int) := (codewrightref05_Canon.f k a0_0 a0_1 l0_2 l1).bind fun t766 => ((codewrightref05_Canon.f k a0_0 a0_1 l0_2 l2).bind fun t769 => (codewrightref05_Gcd.l0 k t766 t769 a0_0 a0_1 l0_2))
set_option maxHeartbeats 8000000 in
set_option maxRecDepth 100000 in
theorem codewrightref05_Gcd.calls (k : Nat) (a0_0 : Int) (a0_1 : Int) (A0_2 : Option Addr) (c0_2 : Nat) (l0_2 : List Int) (A1 : Option Addr) (c1 : Nat) (l1 : List Int) (A2 : Option Addr) (c2 : Nat) (l2 : List Int) (r : List Int) (w : World) (hr0_2 : Kd.C (Kd.int .i64) w A0_2 l0_2.length l0_2) (hc0_2 : l0_2.length ≤ c0_2) (hr1 : Kd.C (Kd.int .i64) w A1 l1.length l1) (hc1 : l1.length ≤ c1) (hr2 : Kd.C (Kd.int .i64) w A2 l2.length l2) (hc2 : l2.length ≤ c2) (h : codewrightref05_Gcd.f k a0_0 a0_1 l0_2 l1 l2 = some r) :
  Calls Try.prog 27 #[.agg #[.int .i64 a0_0, .int .i64 a0_1, .slice A0_2 l0_2.length c0_2], .slice A1 l1.length c1, .slice A2 l2.length c2] w fun e w' => ∃ v0_ : Value, e = .returned (v0_) ∧ Kd.R (Kd.int .i64) 3 w' w.heap.size (fun _ => True) v0_ r ∧ Below w.heap.size w w' := by
 have hu24 := Try.underlying24
 have HR0_2 := Aside0.mk hr0_2
 have HC0_2 := Aside0.mk hc0_2
 clear hr0_2 hc0_2
 have HR1 := Aside0.mk hr1
 have HC1 := Aside0.mk hc1
 clear hr1 hc1
 have HR2 := Aside0.mk hr2
 have HC2 := Aside0.mk hc2
 clear hr2 hc2
 have HB := Aside0.mk (Below.refl w.heap.size w)
 have H : ((codewrightref05_Canon.f k a0_0 a0_1 l0_2 l1).bind fun t766 => ((codewrightref05_Canon.f k a0_0 a0_1 l0_2 l2).bind fun t769 => (codewrightref05_Gcd.l0 k t766 t769 a0_0 a0_1 l0_2))) = some r := h
 clear h
 obtain ⟨t766, A40, H⟩ := Option.bind_eq_some_iff.mp H
 replace H : ((codewrightref05_Canon.f k a0_0 a0_1 l0_2 l2).bind fun t769 => (codewrightref05_Gcd.l0 k t766 t769 a0_0 a0_1 l0_2)) = some r := H
 have A4 := Aside0.mk A40
 clear A40
 obtain ⟨t769, A50, H⟩ := Option.bind_eq_some_iff.mp H
 replace H : (codewrightref05_Gcd.l0 k t766 t769 a0_0 a0_1 l0_2) = some r := H
 have A5 := Aside0.mk A50
 clear A50
 have H' := Aside0.mk H
 clear H
 go_enter Try.func27, Try.ntmps27
 go_wp2_with (first | ((with_reducible refine gate_dst (N := 3) rfl ?_); refine box_event ?hg (N := 3) ?hd (cs := #[.int .i64 a0_0, .int .i64 a0_1, .slice A0_2 l0_2.length c0_2]) (t := 24) ?hr ?_; (case hd => rfl); (case hg => rfl); (case hr => (go_simp; done)); intro gb765 hg w6 hbox hb; have n0_ := Aside0.mk (below_step HB.out hb); have n1_ := Aside0.mk (hbox); have n2_ := Aside0.mk ((by rw [hg]; exact (below_size HB.out) : w.heap.size ≤ gb765)); have n3_ := Aside0.mk ((by rw [hg]; exact (below_size HB.out) : w.heap.size ≤ gb765)); clear HB; have HB := n0_; have BK765 := n1_; have GW765 := n2_; have GE765 := n3_; clear n0_ n1_ n2_ n3_; clear hb hbox hg; have hcz7_0 : w6.cell? ⟨gb765, 0, none⟩ = some (.int .i64 a0_0) := (blk_cell BK765.out 0).trans rfl; have hcz7_1 : w6.cell? ⟨gb765, 1, none⟩ = some (.int .i64 a0_1) := (blk_cell BK765.out 1).trans rfl; have hcz7_2 : w6.cell? ⟨gb765, 2, none⟩ = some (.slice A0_2 l0_2.length c0_2) := (blk_cell BK765.out 2).trans rfl; have hfz7_0 := blk_frozen BK765.out 0; have hfz7_1 := blk_frozen BK765.out 1; have hfz7_2 := blk_frozen BK765.out 2) | ((with_reducible refine gate_callee (f := 23) rfl ?_); refine goesL_ (some 11) rfl rfl Try.func23 (by kernel_rfl) rfl #[.agg #[.int .i64 a0_0, .int .i64 a0_1, .slice A0_2 l0_2.length c0_2], .slice A1 l1.length c1] rfl (by ((simp only [List.map_toArray, List.map_cons, List.map_nil])); (rfl)) ?_; (with_reducible refine (codewrightref05_Canon.calls k a0_0 a0_1 _ _ l0_2 _ _ l1 t766 _ ?side1 ?side2 ?side3 ?side4 A4.out).mono ?_); (case side1 => repeat ((exact (Kd.C_below HR0_2.out HB.out)))); (case side2 => exact HC0_2.out); (case side3 => repeat ((exact (Kd.C_below HR1.out HB.out)))); (case side4 => exact HC1.out); rintro e w8 ⟨v767, rfl, ho0, hb⟩; refine ⟨_, rfl, ?_⟩; have n0_ := Aside0.mk (Kd.R_lower ho0 (below_size HB.out)); have n1_ := Aside0.mk (blk_below (g := gb765) (o := .cells #[.int .i64 a0_0, .int .i64 a0_1, .slice A0_2 l0_2.length c0_2] 24 (0, 0)) BK765.out hb); have n2_ := Aside0.mk (below_step HB.out hb); clear BK765; clear HB; have HO768 := n0_; have BK765 := n1_; have HB := n2_; clear n0_ n1_ n2_; ((clear hb)); (skip); (skip); (skip); ((clear ho0)); have hcz9_0 : w8.cell? ⟨gb765, 0, none⟩ = some (.int .i64 a0_0) := (blk_cell BK765.out 0).trans rfl; have hcz9_1 : w8.cell? ⟨gb765, 1, none⟩ = some (.int .i64 a0_1) := (blk_cell BK765.out 1).trans rfl; have hcz9_2 : w8.cell? ⟨gb765, 2, none⟩ = some (.slice A0_2 l0_2.length c0_2) := (blk_cell BK765.out 2).trans rfl; have hfz9_0 := blk_frozen BK765.out 0; have hfz9_1 := blk_frozen BK765.out 1; have hfz9_2 := blk_frozen BK765.out 2) | ((with_reducible refine gate_callee (f := 23) rfl ?_); refine goesL_ (some 14) rfl rfl Try.func23 (by kernel_rfl) rfl #[.agg #[.int .i64 a0_0, .int .i64 a0_1, .slice A0_2 l0_2.length c0_2], .slice A2 l2.length c2] rfl (by ((simp only [List.map_toArray, List.map_cons, List.map_nil])); (rfl)) ?_; (with_reducible refine (codewrightref05_Canon.calls k a0_0 a0_1 _ _ l0_2 _ _ l2 t769 _ ?side1 ?side2 ?side3 ?side4 A5.out).mono ?_); (case side1 => repeat ((exact (Kd.C_below HR0_2.out HB.out)))); (case side2 => exact HC0_2.out); (case side3 => repeat ((exact (Kd.C_below HR2.out HB.out)))); (case side4 => exact HC2.out); rintro e w10 ⟨v770, rfl, ho0, hb⟩; refine ⟨_, rfl, ?_⟩; have n0_ := Aside0.mk (Kd.R_elder' HO768.out (Kd.R_base ho0) hb); have n1_ := Aside0.mk (Kd.R_lower (Kd.R_new' ho0 (Kd.R_lt HO768.out)) (below_size HB.out)); have n2_ := Aside0.mk (blk_below (g := gb765) (o := .cells #[.int .i64 a0_0, .int .i64 a0_1, .slice A0_2 l0_2.length c0_2] 24 (0, 0)) BK765.out hb); have n3_ := Aside0.mk (below_step HB.out hb); clear HO768; clear BK765; clear HB; have HO768 := n0_; have HO771 := n1_; have BK765 := n2_; have HB := n3_; clear n0_ n1_ n2_ n3_; ((clear hb)); (skip); (skip); (skip); ((clear ho0))))
 go_loopg [1, 2] k (fun kq v1 v2 w' => ∃ (x1_1 : List Int) (x2_1 : List Int), Aside0 (codewrightref05_Gcd.l0 kq x1_1 x2_1 a0_0 a0_1 l0_2 = some r) ∧ Aside0 (kq ≤ k) ∧ Aside0 (Kd.R (Kd.int .i64) 3 w' w.heap.size (fun k_ => some k_ ≠ (v2 : Value).ownBlock) v1 x1_1) ∧ Aside0 (Kd.R (Kd.int .i64) 3 w' w.heap.size (fun k_ => some k_ ≠ (v1 : Value).ownBlock) v2 x2_1) ∧ Aside0 (w'.heap[gb765]? = some (.cells #[.int .i64 a0_0, .int .i64 a0_1, (.slice A0_2 l0_2.length c0_2)] 24 (0, 0))) ∧ Aside0 (Below w.heap.size w w'))
 case atStart => exact ⟨(t766), (t769), H', ⟨Nat.le_refl _⟩, ⟨by exact Kd.R_mono HO768.out (fun _ hk => hk.2)⟩, ⟨by exact Kd.R_mono HO771.out (fun _ hk => hk.2)⟩, ⟨BK765.out⟩, ⟨HB.out⟩⟩
 case round =>
  clear H' hcz7_0 hcz7_1 hcz7_2 hcz9_0 hcz9_1 hcz9_2 hfz7_0 hfz7_1 hfz7_2 hfz9_0 hfz9_1 hfz9_2
  obtain ⟨x1_1, x2_1, HA, HK1, HO_1, HO_2, BK765, HB⟩ := hrel
  cases gk with
  | zero => exact absurd HA.out (by simp [codewrightref05_Gcd.l0])
  | succ k1 =>
   have H := HA.out
   clear HA
   simp only [codewrightref05_Gcd.l0] at H
   by_cases c11 : (x2_1.length : Int) > 0
   ·rw [if_pos c11] at H
    have c11b0 : decide (0 < (x2_1.length : Int)) = true := decide_eq_true c11
    have c11b1 : decide (0 < x2_1.length) = true := decide_eq_true (by omega)
    clear c11
    replace H := Option.bind_eq_some_iff.mp H
    obtain ⟨⟨t772, t775⟩, A120, H⟩ := H
    replace H : (codewrightref05_Gcd.l0 k1 x2_1 t775 a0_0 a0_1 l0_2) = some r := H
    have A12 := Aside0.mk A120
    clear A120
    have H' := Aside0.mk H
    clear H
    obtain ⟨Ao13, co13, eo13⟩ := Kd.R_slice HO_2.out
    subst eo13
    have hcz14_0 : wr.cell? ⟨gb765, 0, none⟩ = some (.int .i64 a0_0) := (blk_cell BK765.out 0).trans rfl
    have hcz14_1 : wr.cell? ⟨gb765, 1, none⟩ = some (.int .i64 a0_1) := (blk_cell BK765.out 1).trans rfl
    have hcz14_2 : wr.cell? ⟨gb765, 2, none⟩ = some (.slice A0_2 l0_2.length c0_2) := (blk_cell BK765.out 2).trans rfl
    have hfz14_0 := blk_frozen BK765.out 0
    have hfz14_1 := blk_frozen BK765.out 1
    have hfz14_2 := blk_frozen BK765.out 2
    obtain ⟨Ao15, co15, eo15⟩ := Kd.R_slice HO_1.out
    subst eo15
    go_wp2_with (((with_reducible refine gate_callee (f := 57) rfl ?_); refine goesL_ (some 22) rfl rfl Try.func57 (by kernel_rfl) rfl #[.agg #[.int .i64 a0_0, .int .i64 a0_1, .slice A0_2 l0_2.length c0_2], .slice Ao15 x1_1.length co15, .slice Ao13 x2_1.length co13] rfl (by ((simp only [List.map_toArray, List.map_cons, List.map_nil])); (rfl)) ?_; (with_reducible refine (codewrightref05_DivMod.calls k1 a0_0 a0_1 _ _ l0_2 _ _ x1_1 _ _ x2_1 t772 t775 _ ?side1 ?side2 ?side3 ?side4 ?side5 ?side6 A12.out).mono ?_); (case side1 => repeat ((exact (Kd.C_below HR0_2.out HB.out)))); (case side2 => exact HC0_2.out); (case side3 => repeat ((exact (Kd.R_reads' HO_1.out).2.2))); (case side4 => exact (Kd.R_reads' HO_1.out).2.1); (case side5 => repeat ((exact (Kd.R_reads' HO_2.out).2.2))); (case side6 => exact (Kd.R_reads' HO_2.out).2.1); rintro e w16 ⟨v773, v776, rfl, ho0, ho1, hb⟩; refine ⟨_, rfl, ?_⟩; have n0_ := Aside0.mk (Kd.R_mono (Kd.R_told (Kd.R_told (Kd.R_old HO_1.out hb) (Kd.R_base ho0)) (Kd.R_base ho1)) (fun _ h_ => h_.1)); have n1_ := Aside0.mk (Kd.R_mono (Kd.R_told (Kd.R_told (Kd.R_old HO_2.out hb) (Kd.R_base ho0)) (Kd.R_base ho1)) (fun _ h_ => h_.1)); have n2_ := Aside0.mk (Kd.R_lower (Kd.R_new' (Kd.R_new' ho0 (Kd.R_lt HO_1.out)) (Kd.R_lt HO_2.out)) (below_size HB.out)); have n3_ := Aside0.mk (Kd.R_lower (Kd.R_new' (Kd.R_new' ho1 (Kd.R_lt HO_1.out)) (Kd.R_lt HO_2.out)) (below_size HB.out)); have n4_ := Aside0.mk (blk_below (g := gb765) (o := .cells #[.int .i64 a0_0, .int .i64 a0_1, .slice A0_2 l0_2.length c0_2] 24 (0, 0)) BK765.out hb); have n5_ := Aside0.mk (below_step HB.out hb); clear HO_1; clear HO_2; clear BK765; clear HB; have HO_1 := n0_; have HO_2 := n1_; have HO774 := n2_; have HO777 := n3_; have BK765 := n4_; have HB := n5_; clear n0_ n1_ n2_ n3_ n4_ n5_; ((clear hb)); (skip); (skip); (skip); ((clear ho0)); ((clear ho1))))
    go_roundg k1
    case measure => have := HK1.out; omega
    case rel => exact ⟨(x2_1), (t775), H', ⟨by have := HK1.out; omega⟩, ⟨by exact Kd.R_mono HO_2.out (fun _ hk => hk.2)⟩, ⟨by exact Kd.R_mono HO777.out (fun _ hk => hk.2)⟩, ⟨BK765.out⟩, ⟨HB.out⟩⟩
   ·rw [if_neg c11] at H
    have c11b0 : decide (0 < (x2_1.length : Int)) = false := decide_eq_false c11
    have c11b1 : decide (0 < x2_1.length) = false := decide_eq_false (by omega)
    clear c11
    obtain ⟨t778, A170, H⟩ := Option.bind_eq_some_iff.mp H
    replace H : (some t778) = some r := H
    have A17 := Aside0.mk A170
    clear A170
    obtain rfl := Option.some.inj H
    obtain ⟨Ao18, co18, eo18⟩ := Kd.R_slice HO_2.out
    subst eo18
    have hcz19_0 : wr.cell? ⟨gb765, 0, none⟩ = some (.int .i64 a0_0) := (blk_cell BK765.out 0).trans rfl
    have hcz19_1 : wr.cell? ⟨gb765, 1, none⟩ = some (.int .i64 a0_1) := (blk_cell BK765.out 1).trans rfl
    have hcz19_2 : wr.cell? ⟨gb765, 2, none⟩ = some (.slice A0_2 l0_2.length c0_2) := (blk_cell BK765.out 2).trans rfl
    have hfz19_0 := blk_frozen BK765.out 0
    have hfz19_1 := blk_frozen BK765.out 1
    have hfz19_2 := blk_frozen BK765.out 2
    obtain ⟨Ao20, co20, eo20⟩ := Kd.R_slice HO_1.out
    subst eo20
    go_wp2_with (((with_reducible refine gate_callee (f := 58) rfl ?_); refine goesL_ (some 29) rfl rfl Try.func58 (by kernel_rfl) rfl #[.agg #[.int .i64 a0_0, .int .i64 a0_1, .slice A0_2 l0_2.length c0_2], .slice Ao20 x1_1.length co20] rfl (by ((simp only [List.map_toArray, List.map_cons, List.map_nil])); (rfl)) ?_; (with_reducible refine (codewrightref05_Monic.calls k1 a0_0 a0_1 _ _ l0_2 _ _ x1_1 t778 _ ?side1 ?side2 ?side3 ?side4 A17.out).mono ?_); (case side1 => repeat ((exact (Kd.C_below HR0_2.out HB.out)))); (case side2 => exact HC0_2.out); (case side3 => repeat ((exact (Kd.R_reads' HO_1.out).2.2))); (case side4 => exact (Kd.R_reads' HO_1.out).2.1); rintro e w21 ⟨v779, rfl, ho0, hb⟩; refine ⟨_, rfl, ?_⟩; have n0_ := Aside0.mk (Kd.R_elder' HO_1.out (Kd.R_base ho0) hb); have n1_ := Aside0.mk (Kd.R_elder' HO_2.out (Kd.R_base ho0) hb); have n2_ := Aside0.mk (Kd.R_lower (Kd.R_new' (Kd.R_new' ho0 (Kd.R_lt HO_1.out)) (Kd.R_lt HO_2.out)) (below_size HB.out)); have n3_ := Aside0.mk (blk_below (g := gb765) (o := .cells #[.int .i64 a0_0, .int .i64 a0_1, .slice A0_2 l0_2.length c0_2] 24 (0, 0)) BK765.out hb); have n4_ := Aside0.mk (below_step HB.out hb); clear HO_1; clear HO_2; clear BK765; clear HB; have HO_1 := n0_; have HO_2 := n1_; have HO780 := n2_; have BK765 := n3_; have HB := n4_; clear n0_ n1_ n2_ n3_ n4_; ((clear hb)); (skip); (skip); (skip); ((clear ho0))))
    go_ret
    exact ⟨_, by rfl, by exact Kd.R_mono HO780.out (fun _ hk => trivial), by exact HB.out⟩
end Go.Proofs.Ytkdakjlopheefaa.PA
end
section
namespace Go.Proofs.Ytkdakjlopheefaa.PA
open Go.RowKit Go.Proofs.YtkdakjlopheefaaW.PrintWords Go.Proofs.YtkdakjlopheefaaW.PrintLast Go.Proofs.YtkdakjlopheefaaW.PrintMore
attribute [local go_sem] max2_int min2_int max_two min_two max_three min_three max_four min_four
set_option linter.unusedVariables false
set_option linter.unusedSimpArgs false
end Go.Proofs.Ytkdakjlopheefaa.PA
end
section
namespace Go.Proofs.Ytkdakjlopheefaa.PA
open Go.RowKit Go.Proofs.YtkdakjlopheefaaW.PrintWords Go.Proofs.YtkdakjlopheefaaW.PrintLast Go.Proofs.YtkdakjlopheefaaW.PrintMore
attribute [local go_sem] max2_int min2_int max_two min_two max_three min_three max_four min_four
set_option linter.unusedVariables false
set_option linter.unusedSimpArgs false
end Go.Proofs.Ytkdakjlopheefaa.PA
end
section
namespace Go.Proofs.Ytkdakjlopheefaa.PA
open Go.RowKit Go.Proofs.YtkdakjlopheefaaW.PrintWords Go.Proofs.YtkdakjlopheefaaW.PrintLast Go.Proofs.YtkdakjlopheefaaW.PrintMore
attribute [local go_sem] max2_int min2_int max_two min_two max_three min_three max_four min_four
set_option linter.unusedVariables false
set_option linter.unusedSimpArgs false
end Go.Proofs.Ytkdakjlopheefaa.PA
end
section
namespace Go.Proofs.Ytkdakjlopheefaa.PA
open Go.RowKit Go.Proofs.YtkdakjlopheefaaW.PrintWords Go.Proofs.YtkdakjlopheefaaW.PrintLast Go.Proofs.YtkdakjlopheefaaW.PrintMore
attribute [local go_sem] max2_int min2_int max_two min_two max_three min_three max_four min_four
set_option linter.unusedVariables false
set_option linter.unusedSimpArgs false
end Go.Proofs.Ytkdakjlopheefaa.PA
end
section
namespace Go.Proofs.Ytkdakjlopheefaa.PA
open Go.RowKit Go.Proofs.YtkdakjlopheefaaW.PrintWords Go.Proofs.YtkdakjlopheefaaW.PrintLast Go.Proofs.YtkdakjlopheefaaW.PrintMore
theorem Ev.succ {α : Type} {g : Nat → Option α} {r : α} (h : Ev (fun k => g (k + 1)) r) : Ev g r := Ev.step (fun _ => rfl) h
theorem Ev.ifp {α : Type} {c : Prop} [Decidable c] {f g : Nat → Option α} {r : α} (h : c) (e : Ev f r) : Ev (fun k => if c then f k else g k) r := by simp only [if_pos h]; exact e
theorem Ev.ifn {α : Type} {c : Prop} [Decidable c] {f g : Nat → Option α} {r : α} (h : ¬ c) (e : Ev g r) : Ev (fun k => if c then f k else g k) r := by simp only [if_neg h]; exact e
theorem Ev.val {α : Type} {a r : α} (h : a = r) : Ev (fun _ => some a) r := h ▸ Ev.now a
theorem Ev.some_bind {α β : Type} {a : α} {f : Nat → α → Option β} {r : β} (h : Ev (fun k => f k a) r) : Ev (fun k => (some a).bind (f k)) r := h
theorem Ev.opt_bind {α β : Type} {o : Option α} {a : α} {f : Nat → α → Option β} {r : β} (h0 : o = some a) (h : Ev (fun k => f k a) r) : Ev (fun k => o.bind (f k)) r := by subst h0; exact h
theorem w64 {n : Int} (h : -4000000000000000000 ≤ n ∧ n ≤ 4000000000000000000) : wrap64 n = n := by unfold wrap64; omega
theorem rd_nat (xs : List Int) (j : Nat) : rd xs (j : Int) = xs.getD j 0 := by unfold rd; rw [Int.toNat_natCast]
theorem rd_set (xs : List Int) (i j : Nat) (v : Int) (h : i < xs.length) : (xs.set i v).getD j 0 = if i = j then v else xs.getD j 0 := by
  rw [List.getD_eq_getElem?_getD, List.getElem?_set]
  split
  · rename_i e; subst e; simp [h]
  · rw [List.getD_eq_getElem?_getD]
theorem tdiv_pos {a b : Int} (h : 0 ≤ a) : Int.tdiv a b = a / b := Int.tdiv_eq_ediv_of_nonneg h
theorem tmod_pos {a b : Int} (h : 0 ≤ a) : Int.tmod a b = a % b := Int.tmod_eq_emod_of_nonneg h
theorem getD_nat_lt (xs : List Int) (j : Nat) (h : xs.length ≤ j) : xs.getD j 0 = 0 := by
  rw [List.getD_eq_getElem?_getD, List.getElem?_eq_none h]; rfl
theorem getD_zeros (n j : Nat) : (List.replicate n (0 : Int)).getD j 0 = 0 := by
  rw [List.getD_eq_getElem?_getD, List.getElem?_replicate]; split <;> rfl
end Go.Proofs.Ytkdakjlopheefaa.PA
end
