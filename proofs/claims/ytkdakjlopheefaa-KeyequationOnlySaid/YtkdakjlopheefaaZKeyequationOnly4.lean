/- Proved: for every input the law KeyequationOnly returns true and leaves its arguments as they were; no conditions. Part 5 of 6 of the proof. -/
import Derived.Test.YtkdakjlopheefaaZKeyequationOnly3
set_option linter.unusedSectionVars false
set_option linter.unusedSimpArgs false
set_option linter.unusedVariables false
section
namespace Go.Proofs.Ytkdakjlopheefaa.PA
open Go.RowKit Go.Proofs.YtkdakjlopheefaaW.PrintWords Go.Proofs.YtkdakjlopheefaaW.PrintLast Go.Proofs.YtkdakjlopheefaaW.PrintMore
attribute [local go_sem] max2_int min2_int max_two min_two max_three min_three max_four min_four
set_option linter.unusedVariables false
set_option linter.unusedSimpArgs false
mutual
def codewrightref05_Mul.l0 : Nat → List Int → List Int → List Int → Int → Int → Int → List Int → Option (List Int)
 | 0, _, _, _, _, _, _, _ => none
 | k + 1, x1, x2, x7, x8, x651000, x651001, x651002 => if x8 < (x1.length : Int) then (codewrightref05_Mul.l1 k x1 x2 x7 x8 0 x651000 x651001 x651002) else ((codewrightref05_Canon.f k x651000 x651001 x651002 x7).bind fun t660 => (some t660))
def codewrightref05_Mul.l1 : Nat → List Int → List Int → List Int → Int → Int → Int → Int → List Int → Option (List Int)
 | 0, _, _, _, _, _, _, _, _ => none
 | k + 1, x1, x2, x7, x8, x9, x651000, x651001, x651002 => if x9 < (x2.length : Int) then (if 0 ≤ (wrap64 (x8 + x9)) then (if (wrap64 (x8 + x9)) < (x7.length : Int) then (if 0 ≤ x8 then (if x8 < (x1.length : Int) then (if 0 ≤ x9 then ((codewrightref04_Mul.f k x651000 x651001 x651002 (rd x1 x8) (rd x2 x9)).bind fun t666 => ((codewrightref04_Add.f k x651000 x651001 x651002 (rd x7 (wrap64 (x8 + x9))) t666).bind fun t667 => (codewrightref05_Mul.l1 k x1 x2 (x7.set ((wrap64 (x8 + x9)) : Int).toNat t667) x8 (wrap64 (x9 + 1)) x651000 x651001 x651002))) else (none)) else (none)) else (none)) else (none)) else (none)) else (codewrightref05_Mul.l0 k x1 x2 x7 (wrap64 (x8 + 1)) x651000 x651001 x651002)
end
def codewrightref05_Mul.f (k : Nat) (a0_0 : Int) (a0_1 : Int) (l0_2 : List Int) (l1 : List Int) (l2 : List Int) : Option (List Int) := (codewrightref05_Canon.f k a0_0 a0_1 l0_2 l1).bind fun t651 => ((codewrightref05_Canon.f k a0_0 a0_1 l0_2 l2).bind fun t654 => (if 0 ≤ (wrap64 ((t651.length : Int) + (t654.length : Int))) then (if (wrap64 ((t651.length : Int) + (t654.length : Int)) : Int).toNat ≤ 35184372088832 then (codewrightref05_Mul.l0 k t651 t654 (List.replicate (wrap64 ((t651.length : Int) + (t654.length : Int)) : Int).toNat 0) 0 a0_0 a0_1 l0_2) else (none)) else (none)))
def codewrightref05_Mul.T10 : Bool × List (List Nat × List Nat) := (true, [([], []), ([], []), ([], []), ([1, 2], [1, 2]), ([], []), ([], []), ([], []), ([], []), ([6, 7], [6, 7]), ([5, 8], [5, 8]), ([9], [9]), ([], []), ([], []), ([], []), ([12, 13], [12, 13]), ([14], [14]), ([], []), ([], []), ([16, 17], [16, 17]), ([18], [18]), ([11, 15, 19], [11, 15, 19]), ([4, 10, 20, 20], [4, 10, 20]), ([0, 3, 0, 1, 2, 3, 4, 5, 6, 7, 8, 9, 10, 11, 12, 13, 14, 15, 16, 17, 18, 19, 20, 21], [0, 3]), ([22, 21, 21, 0, 1, 2, 3, 4, 5, 6, 7, 8, 9, 10, 11, 12, 13, 14, 15, 16, 17, 18, 19, 20, 21], [21, 22])])
def codewrightref05_Mul.B10 : List Nat := [0, 0, 0, 6, 0, 0, 0, 0, 192, 480, 992, 0, 0, 0, 12288, 28672, 0, 0, 196608, 458752, 1046528, 2097136, 4194303, 8388607]
theorem codewrightref05_Mul.tab10 : rtab .any (opsOf Try.f28 10) = codewrightref05_Mul.T10 := by kernel_rfl
theorem codewrightref05_Mul.bits10 : waitsOk codewrightref05_Mul.T10.2 codewrightref05_Mul.B10 = true := by kernel_rfl
set_option maxHeartbeats 8000000 in
set_option maxRecDepth 100000 in
theorem codewrightref05_Mul.calls (k : Nat) (a0_0 : Int) (a0_1 : Int) (A0_2 : Option Addr) (c0_2 : Nat) (l0_2 : List Int) (A1 : Option Addr) (c1 : Nat) (l1 : List Int) (A2 : Option Addr) (c2 : Nat) (l2 : List Int) (r : List Int) (w : World) (hr0_2 : Kd.C (Kd.int .i64) w A0_2 l0_2.length l0_2) (hc0_2 : l0_2.length ≤ c0_2) (hr1 : Kd.C (Kd.int .i64) w A1 l1.length l1) (hc1 : l1.length ≤ c1) (hr2 : Kd.C (Kd.int .i64) w A2 l2.length l2) (hc2 : l2.length ≤ c2) (h : codewrightref05_Mul.f k a0_0 a0_1 l0_2 l1 l2 = some r) :
  Calls Try.prog 28 #[.agg #[.int .i64 a0_0, .int .i64 a0_1, .slice A0_2 l0_2.length c0_2], .slice A1 l1.length c1, .slice A2 l2.length c2] w fun e w' => ∃ v0_ : Value, e = .returned (v0_) ∧ Kd.R (Kd.int .i64) 3 w' w.heap.size (fun _ => True) v0_ r ∧ Below w.heap.size w w' := by
 have hu24 := Try.underlying24
 have HR0_2 := Aside0.mk hr0_2
 have HC0_2 := Aside0.mk hc0_2
 clear hr0_2 hc0_2
 have HR1 := Aside0.mk hr1
 have HC1 := Aside0.mk hc1
 clear hr1 hc1
 have HR2 := Aside0.mk hr2
 have HC2 := Aside0.mk hc2
 clear hr2 hc2
 have HB := Aside0.mk (Below.refl w.heap.size w)
 have H : ((codewrightref05_Canon.f k a0_0 a0_1 l0_2 l1).bind fun t651 => ((codewrightref05_Canon.f k a0_0 a0_1 l0_2 l2).bind fun t654 => (if 0 ≤ (wrap64 ((t651.length : Int) + (t654.length : Int))) then (if (wrap64 ((t651.length : Int) + (t654.length : Int)) : Int).toNat ≤ 35184372088832 then (codewrightref05_Mul.l0 k t651 t654 (List.replicate (wrap64 ((t651.length : Int) + (t654.length : Int)) : Int).toNat 0) 0 a0_0 a0_1 l0_2) else (none)) else (none)))) = some r := h
 clear h
 obtain ⟨t651, A40, H⟩ := Option.bind_eq_some_iff.mp H
 replace H : ((codewrightref05_Canon.f k a0_0 a0_1 l0_2 l2).bind fun t654 => (if 0 ≤ (wrap64 ((t651.length : Int) + (t654.length : Int))) then (if (wrap64 ((t651.length : Int) + (t654.length : Int)) : Int).toNat ≤ 35184372088832 then (codewrightref05_Mul.l0 k t651 t654 (List.replicate (wrap64 ((t651.length : Int) + (t654.length : Int)) : Int).toNat 0) 0 a0_0 a0_1 l0_2) else (none)) else (none))) = some r := H
 have A4 := Aside0.mk A40
 clear A40
 obtain ⟨t654, A50, H⟩ := Option.bind_eq_some_iff.mp H
 replace H : (if 0 ≤ (wrap64 ((t651.length : Int) + (t654.length : Int))) then (if (wrap64 ((t651.length : Int) + (t654.length : Int)) : Int).toNat ≤ 35184372088832 then (codewrightref05_Mul.l0 k t651 t654 (List.replicate (wrap64 ((t651.length : Int) + (t654.length : Int)) : Int).toNat 0) 0 a0_0 a0_1 l0_2) else (none)) else (none)) = some r := H
 have A5 := Aside0.mk A50
 clear A50
 obtain ⟨ji6, hji6⟩ : ∃ j_ : Int, (wrap64 ((t651.length : Int) + (t654.length : Int))) = j_ := ⟨_, rfl⟩
 replace H : (if 0 ≤ (ji6) then (if (ji6 : Int).toNat ≤ 35184372088832 then (codewrightref05_Mul.l0 k t651 t654 (List.replicate (ji6 : Int).toNat 0) 0 a0_0 a0_1 l0_2) else (none)) else (none)) = some r := by (rw [hji6] at H; exact H)
 have hji6w : (IntKind.i64.wrap ((t651.length : Int) + (t654.length : Int))) = ji6 := (i64_w _).trans hji6
 by_cases c7 : 0 ≤ (ji6)
 ·rw [if_pos c7] at H
  have c7b0 := eq_true c7
  have c7b1 : decide (0 ≤ (ji6)) = true := decide_eq_true c7
  clear c7
  by_cases c8 : (ji6 : Int).toNat ≤ 35184372088832
  ·rw [if_pos c8] at H
   have c8b0 := eq_true c8
   have c8b1 : decide ((ji6 : Int).toNat ≤ 35184372088832) = true := decide_eq_true c8
   clear c8
   obtain ⟨y657, hy657⟩ : ∃ y_ : List Int, y_ = (List.replicate (ji6 : Int).toNat 0) := ⟨_, rfl⟩
   replace H : (codewrightref05_Mul.l0 k t651 t654 y657 0 a0_0 a0_1 l0_2) = some r := by (rw [hy657]; with_reducible exact H)
   have Ny657 := Aside0.mk hy657
   clear hy657
   have H' := Aside0.mk H
   clear H
   go_enter Try.func28, Try.ntmps28
   go_wp2_with (first | ((with_reducible refine gate_dst (N := 3) rfl ?_); refine box_event ?hg (N := 3) ?hd (cs := #[.int .i64 a0_0, .int .i64 a0_1, .slice A0_2 l0_2.length c0_2]) (t := 24) ?hr ?_; (case hd => rfl); (case hg => rfl); (case hr => (go_simp; done)); intro gb650 hg w9 hbox hb; have n0_ := Aside0.mk (below_step HB.out hb); have n1_ := Aside0.mk (hbox); have n2_ := Aside0.mk ((by rw [hg]; exact (below_size HB.out) : w.heap.size ≤ gb650)); have n3_ := Aside0.mk ((by rw [hg]; exact (below_size HB.out) : w.heap.size ≤ gb650)); clear HB; have HB := n0_; have BK650 := n1_; have GW650 := n2_; have GE650 := n3_; clear n0_ n1_ n2_ n3_; clear hb hbox hg; have hcz10_0 : w9.cell? ⟨gb650, 0, none⟩ = some (.int .i64 a0_0) := (blk_cell BK650.out 0).trans rfl; have hcz10_1 : w9.cell? ⟨gb650, 1, none⟩ = some (.int .i64 a0_1) := (blk_cell BK650.out 1).trans rfl; have hcz10_2 : w9.cell? ⟨gb650, 2, none⟩ = some (.slice A0_2 l0_2.length c0_2) := (blk_cell BK650.out 2).trans rfl; have hfz10_0 := blk_frozen BK650.out 0; have hfz10_1 := blk_frozen BK650.out 1; have hfz10_2 := blk_frozen BK650.out 2) | ((with_reducible refine gate_callee (f := 23) rfl ?_); refine goesL_ (some 12) rfl rfl Try.func23 (by kernel_rfl) rfl #[.agg #[.int .i64 a0_0, .int .i64 a0_1, .slice A0_2 l0_2.length c0_2], .slice A1 l1.length c1] rfl (by ((simp only [List.map_toArray, List.map_cons, List.map_nil])); (rfl)) ?_; (with_reducible refine (codewrightref05_Canon.calls k a0_0 a0_1 _ _ l0_2 _ _ l1 t651 _ ?side1 ?side2 ?side3 ?side4 A4.out).mono ?_); (case side1 => repeat ((exact (Kd.C_below HR0_2.out HB.out)))); (case side2 => exact HC0_2.out); (case side3 => repeat ((exact (Kd.C_below HR1.out HB.out)))); (case side4 => exact HC1.out); rintro e w11 ⟨v652, rfl, ho0, hb⟩; refine ⟨_, rfl, ?_⟩; have n0_ := Aside0.mk (Kd.R_lower ho0 (below_size HB.out)); have n1_ := Aside0.mk (blk_below (g := gb650) (o := .cells #[.int .i64 a0_0, .int .i64 a0_1, .slice A0_2 l0_2.length c0_2] 24 (0, 0)) BK650.out hb); have n2_ := Aside0.mk (below_step HB.out hb); clear BK650; clear HB; have HO653 := n0_; have BK650 := n1_; have HB := n2_; clear n0_ n1_ n2_; ((clear hb)); (skip); (skip); (skip); ((clear ho0)); have hcz12_0 : w11.cell? ⟨gb650, 0, none⟩ = some (.int .i64 a0_0) := (blk_cell BK650.out 0).trans rfl; have hcz12_1 : w11.cell? ⟨gb650, 1, none⟩ = some (.int .i64 a0_1) := (blk_cell BK650.out 1).trans rfl; have hcz12_2 : w11.cell? ⟨gb650, 2, none⟩ = some (.slice A0_2 l0_2.length c0_2) := (blk_cell BK650.out 2).trans rfl; have hfz12_0 := blk_frozen BK650.out 0; have hfz12_1 := blk_frozen BK650.out 1; have hfz12_2 := blk_frozen BK650.out 2) | ((with_reducible refine gate_callee (f := 23) rfl ?_); refine goesL_ (some 15) rfl rfl Try.func23 (by kernel_rfl) rfl #[.agg #[.int .i64 a0_0, .int .i64 a0_1, .slice A0_2 l0_2.length c0_2], .slice A2 l2.length c2] rfl (by ((simp only [List.map_toArray, List.map_cons, List.map_nil])); (rfl)) ?_; (with_reducible refine (codewrightref05_Canon.calls k a0_0 a0_1 _ _ l0_2 _ _ l2 t654 _ ?side1 ?side2 ?side3 ?side4 A5.out).mono ?_); (case side1 => repeat ((exact (Kd.C_below HR0_2.out HB.out)))); (case side2 => exact HC0_2.out); (case side3 => repeat ((exact (Kd.C_below HR2.out HB.out)))); (case side4 => exact HC2.out); rintro e w13 ⟨v655, rfl, ho0, hb⟩; refine ⟨_, rfl, ?_⟩; have n0_ := Aside0.mk (Kd.R_elder' HO653.out (Kd.R_base ho0) hb); have n1_ := Aside0.mk (Kd.R_lower (Kd.R_new' ho0 (Kd.R_lt HO653.out)) (below_size HB.out)); have n2_ := Aside0.mk (blk_below (g := gb650) (o := .cells #[.int .i64 a0_0, .int .i64 a0_1, .slice A0_2 l0_2.length c0_2] 24 (0, 0)) BK650.out hb); have n3_ := Aside0.mk (below_step HB.out hb); clear HO653; clear BK650; clear HB; have HO653 := n0_; have HO656 := n1_; have BK650 := n2_; have HB := n3_; clear n0_ n1_ n2_ n3_; ((clear hb)); (skip); (skip); (skip); ((clear ho0)); obtain ⟨Ao14, co14, eo14⟩ := Kd.R_slice HO653.out; subst eo14; obtain ⟨Ao15, co15, eo15⟩ := Kd.R_slice HO656.out; subst eo15) | ((with_reducible refine gate_dst (N := 21) rfl ?_); refine Kd.R_make (Kd.int .i64) _ 3 rfl (N := 21) rfl 22 _ _ rfl ji6 rfl rfl Try.underlying22 (.int .i64 0) 8 info3 rfl (by decide) (by omega) 0 (ok := fun _ => True) (okp := fun _ => True) rfl (fun _ hk => hk) trivial (of_decide_eq_true (by (with_reducible assumption))) (Nat.le_trans (Nat.mul_le_mul_right _ (of_decide_eq_true (by (with_reducible assumption)) : ji6.toNat ≤ 35184372088832)) (by omega)) (Below.refl _ _) (Nat.le_refl _) ?_; intro v658 w16 ho17 hb hg_ hnew_; clear hg_ hnew_; ((rw [← Ny657.out] at ho17)); have n0_ := Aside0.mk (Kd.R_elder' HO653.out (Kd.R_base ho17) hb); have n1_ := Aside0.mk (Kd.R_elder' HO656.out (Kd.R_base ho17) hb); have n2_ := Aside0.mk (Kd.R_lower (Kd.R_new' (Kd.R_new' ho17 (Kd.R_lt HO653.out)) (Kd.R_lt HO656.out)) (below_size HB.out)); have n3_ := Aside0.mk (blk_below (g := gb650) (o := .cells #[.int .i64 a0_0, .int .i64 a0_1, .slice A0_2 l0_2.length c0_2] 24 (0, 0)) BK650.out hb); have n4_ := Aside0.mk (below_step HB.out hb); clear HO653; clear HO656; clear BK650; clear HB; have HO653 := n0_; have HO656 := n1_; have HO659 := n2_; have BK650 := n3_; have HB := n4_; clear n0_ n1_ n2_ n3_ n4_; clear hb ho17))
   go_loopg [8] k (fun kq v8 w' => ∃ (x7_1 : List Int) (x8_1 : Int), v8 = .int .i64 x8_1 ∧ Aside0 (codewrightref05_Mul.l0 kq t651 t654 x7_1 x8_1 a0_0 a0_1 l0_2 = some r) ∧ Aside0 (kq ≤ k) ∧ Aside0 (Kd.R (Kd.int .i64) 3 w' w.heap.size (fun k_ => some k_ ≠ ((.slice Ao15 t654.length co15) : Value).ownBlock ∧ some k_ ≠ (v658 : Value).ownBlock) (.slice Ao14 t651.length co14) t651) ∧ Aside0 (Kd.R (Kd.int .i64) 3 w' w.heap.size (fun k_ => some k_ ≠ ((.slice Ao14 t651.length co14) : Value).ownBlock ∧ some k_ ≠ (v658 : Value).ownBlock) (.slice Ao15 t654.length co15) t654) ∧ Aside0 (Kd.R (Kd.int .i64) 3 w' w.heap.size (fun k_ => some k_ ≠ ((.slice Ao14 t651.length co14) : Value).ownBlock ∧ some k_ ≠ ((.slice Ao15 t654.length co15) : Value).ownBlock) v658 x7_1) ∧ Aside0 (w'.heap[gb650]? = some (.cells #[.int .i64 a0_0, .int .i64 a0_1, (.slice A0_2 l0_2.length c0_2)] 24 (0, 0))) ∧ Aside0 (Below w.heap.size w w'))
   case atStart => exact ⟨(y657), (0), (by rfl), H', ⟨Nat.le_refl _⟩, ⟨by exact Kd.R_mono HO653.out (fun _ hk => ⟨hk.1.2, hk.2⟩)⟩, ⟨by exact Kd.R_mono HO656.out (fun _ hk => ⟨hk.1.2, hk.2⟩)⟩, ⟨by exact Kd.R_mono HO659.out (fun _ hk => ⟨hk.1.2, hk.2⟩)⟩, ⟨BK650.out⟩, ⟨HB.out⟩⟩
   case round =>
    clear H' c7b0 c7b1 c8b0 c8b1 hcz10_0 hcz10_1 hcz10_2 hcz12_0 hcz12_1 hcz12_2 hfz10_0 hfz10_1 hfz10_2 hfz12_0 hfz12_1 hfz12_2
    obtain ⟨x7_1, x8_1, rfl, HA, HK1, HO_1, HO_2, HO_7, BK650, HB⟩ := hrel
    cases gk with
    | zero => exact absurd HA.out (by simp [codewrightref05_Mul.l0])
    | succ k1 =>
     have H := HA.out
     clear HA
     simp only [codewrightref05_Mul.l0] at H
     by_cases c18 : x8_1 < (t651.length : Int)
     ·rw [if_pos c18] at H
      have c18b0 : decide (x8_1 < (t651.length : Int)) = true := decide_eq_true c18
      clear c18
      have H' := Aside0.mk H
      clear H
      go_wp2
      go_loopg [9] k1 (fun kq v9 w' => ∃ (x7_2 : List Int) (x9_2 : Int), v9 = .int .i64 x9_2 ∧ Aside0 (codewrightref05_Mul.l1 kq t651 t654 x7_2 x8_1 x9_2 a0_0 a0_1 l0_2 = some r) ∧ Aside0 (kq ≤ k1) ∧ Aside0 (Kd.R (Kd.int .i64) 3 w' w.heap.size (fun k_ => some k_ ≠ ((.slice Ao15 t654.length co15) : Value).ownBlock ∧ some k_ ≠ (v658 : Value).ownBlock) (.slice Ao14 t651.length co14) t651) ∧ Aside0 (Kd.R (Kd.int .i64) 3 w' w.heap.size (fun k_ => some k_ ≠ ((.slice Ao14 t651.length co14) : Value).ownBlock ∧ some k_ ≠ (v658 : Value).ownBlock) (.slice Ao15 t654.length co15) t654) ∧ Aside0 (Kd.R (Kd.int .i64) 3 w' w.heap.size (fun k_ => some k_ ≠ ((.slice Ao14 t651.length co14) : Value).ownBlock ∧ some k_ ≠ ((.slice Ao15 t654.length co15) : Value).ownBlock) v658 x7_2) ∧ Aside0 (w'.heap[gb650]? = some (.cells #[.int .i64 a0_0, .int .i64 a0_1, (.slice A0_2 l0_2.length c0_2)] 24 (0, 0))) ∧ Aside0 (Below w.heap.size w w'))
      case atStart => exact ⟨(x7_1), (0), (by rfl), H', ⟨Nat.le_refl _⟩, ⟨HO_1.out⟩, ⟨HO_2.out⟩, ⟨HO_7.out⟩, ⟨BK650.out⟩, ⟨HB.out⟩⟩
      case round =>
       clear H' c18b0
       obtain ⟨x7_2, x9_2, rfl, HA, HK2, HO_1, HO_2, HO_7, BK650, HB⟩ := hrel
       cases gk with
       | zero => exact absurd HA.out (by simp [codewrightref05_Mul.l1])
       | succ k2 =>
        have H := HA.out
        clear HA
        simp only [codewrightref05_Mul.l1] at H
        by_cases c19 : x9_2 < (t654.length : Int)
        ·rw [if_pos c19] at H
         have c19b0 : decide (x9_2 < (t654.length : Int)) = true := decide_eq_true c19
         clear c19
         obtain ⟨ji20, hji20⟩ : ∃ j_ : Int, (wrap64 (x8_1 + x9_2)) = j_ := ⟨_, rfl⟩
         replace H : (if 0 ≤ (ji20) then (if (ji20) < (x7_2.length : Int) then (if 0 ≤ x8_1 then (if x8_1 < (t651.length : Int) then (if 0 ≤ x9_2 then ((codewrightref04_Mul.f k2 a0_0 a0_1 l0_2 (rd t651 x8_1) (rd t654 x9_2)).bind fun t666 => ((codewrightref04_Add.f k2 a0_0 a0_1 l0_2 (rd x7_2 (ji20)) t666).bind fun t667 => (codewrightref05_Mul.l1 k2 t651 t654 (x7_2.set ((ji20) : Int).toNat t667) x8_1 (wrap64 (x9_2 + 1)) a0_0 a0_1 l0_2))) else (none)) else (none)) else (none)) else (none)) else (none)) = some r := by (rw [hji20] at H; exact H)
         have hji20w : (IntKind.i64.wrap (x8_1 + x9_2)) = ji20 := (i64_w _).trans hji20
         by_cases c21 : 0 ≤ (ji20)
         ·rw [if_pos c21] at H
          have c21b0 : decide (0 ≤ (ji20)) = true := decide_eq_true c21
          clear c21
          by_cases c22 : (ji20) < (x7_2.length : Int)
          ·rw [if_pos c22] at H
           have c22b0 : decide ((ji20) < (x7_2.length : Int)) = true := decide_eq_true c22
           clear c22
           by_cases c23 : 0 ≤ x8_1
           ·rw [if_pos c23] at H
            have c23b0 : decide (0 ≤ x8_1) = true := decide_eq_true c23
            clear c23
            by_cases c24 : x8_1 < (t651.length : Int)
            ·rw [if_pos c24] at H
             have c24b0 : decide (x8_1 < (t651.length : Int)) = true := decide_eq_true c24
             clear c24
             by_cases c25 : 0 ≤ x9_2
             ·rw [if_pos c25] at H
              have c25b0 : decide (0 ≤ x9_2) = true := decide_eq_true c25
              clear c25
              obtain ⟨t666, A260, H⟩ := Option.bind_eq_some_iff.mp H
              replace H : ((codewrightref04_Add.f k2 a0_0 a0_1 l0_2 (rd x7_2 (ji20)) t666).bind fun t667 => (codewrightref05_Mul.l1 k2 t651 t654 (x7_2.set ((ji20) : Int).toNat t667) x8_1 (wrap64 (x9_2 + 1)) a0_0 a0_1 l0_2)) = some r := H
              have A26 := Aside0.mk A260
              clear A260
              obtain ⟨t667, A270, H⟩ := Option.bind_eq_some_iff.mp H
              replace H : (codewrightref05_Mul.l1 k2 t651 t654 (x7_2.set ((ji20) : Int).toNat t667) x8_1 (wrap64 (x9_2 + 1)) a0_0 a0_1 l0_2) = some r := H
              have A27 := Aside0.mk A270
              clear A270
              obtain ⟨y668, hy668⟩ : ∃ y_ : List Int, y_ = (x7_2.set ((ji20) : Int).toNat t667) := ⟨_, rfl⟩
              replace H : (codewrightref05_Mul.l1 k2 t651 t654 y668 x8_1 (wrap64 (x9_2 + 1)) a0_0 a0_1 l0_2) = some r := by (rw [hy668]; with_reducible exact H)
              have Ny668 := Aside0.mk hy668
              clear hy668
              have H' := Aside0.mk H
              clear H
              (go_wp2)
              have n0_ := Aside0.mk (Kd.R_drew HO_1.out)
              have n1_ := Aside0.mk (Kd.R_drew HO_2.out)
              have n2_ := Aside0.mk (Kd.R_drew HO_7.out)
              have n3_ := Aside0.mk (blk_drew BK650.out)
              have n4_ := Aside0.mk (below_drew1 HB.out)
              clear HO_1 HO_2 HO_7 BK650 HB
              have HO_1 := n0_
              have HO_2 := n1_
              have HO_7 := n2_
              have BK650 := n3_
              have HB := n4_
              clear n0_ n1_ n2_ n3_ n4_
              obtain ⟨Ao30, co30, eo30⟩ := Kd.R_slice HO_7.out
              ((subst eo30))
              have p663 : 0 ≤ ((ji20) : Int) := of_decide_eq_true (by (with_reducible assumption))
              have q663 : (ji20) < (x7_2.length : Int) := of_decide_eq_true (by (with_reducible assumption))
              obtain ⟨ad663, e663, hx663_0⟩ := Kd.at_int (Kd.R_reads' HO_7.out).2.2 (ji20) p663 q663
              cases e663
              replace p663 := eq_true p663
              replace q663 := eq_true q663
              have p664 : 0 ≤ (x8_1 : Int) := of_decide_eq_true (by (with_reducible assumption))
              have q664 : x8_1 < (t651.length : Int) := of_decide_eq_true (by (with_reducible assumption))
              obtain ⟨ad664, e664, hx664_0⟩ := Kd.at_int (Kd.R_reads' HO_1.out).2.2 x8_1 p664 q664
              cases e664
              replace p664 := eq_true p664
              replace q664 := eq_true q664
              have p665 : 0 ≤ (x9_2 : Int) := of_decide_eq_true (by (with_reducible assumption))
              have q665 : x9_2 < (t654.length : Int) := of_decide_eq_true (by (with_reducible assumption))
              obtain ⟨ad665, e665, hx665_0⟩ := Kd.at_int (Kd.R_reads' HO_2.out).2.2 x9_2 p665 q665
              cases e665
              replace p665 := eq_true p665
              replace q665 := eq_true q665
              refine start_ (n := 24) (S := fun w' => w'.cell? ⟨gb650, 0, none⟩ = some (.int .i64 a0_0) ∧ w'.cell? ⟨gb650, 1, none⟩ = some (.int .i64 a0_1) ∧ w'.cell? ⟨gb650, 2, none⟩ = some (.slice A0_2 l0_2.length c0_2) ∧ w'.cell? (ad663.add ((ji20)).toNat) = some (.int .i64 (rd x7_2 (ji20))) ∧ w'.cell? (ad664.add (x8_1).toNat) = some (.int .i64 (rd t651 x8_1)) ∧ w'.cell? (ad665.add (x9_2).toNat) = some (.int .i64 (rd t654 x9_2))) (ds := [23]) (bm 24 0) (by kernel_rfl) rfl rfl ⟨(blk_cell BK650.out 0).trans rfl, (blk_cell BK650.out 1).trans rfl, (blk_cell BK650.out 2).trans rfl, hx663_0, hx664_0, hx665_0⟩ (fun hHeld => ?_); refine with_tabW codewrightref05_Mul.tab10 codewrightref05_Mul.bits10 (fun HT_ HW_ => ?_)
              generalize wr.drew = w29 at HO_1 HO_2 HO_7 BK650 HB hx663_0 hx664_0 hx665_0 hHeld ⊢
              refine pure_ (i := 0) (N := some 34) (v := ?_) (a' := ?_) (bm 24 1) rfl rfl (any_of HT_.out (by kernel_rfl)) (fun _ _ _ h => h) (Or.inl ⟨by rfl, ?_⟩) ?_ ?_;rotate_left;(intro w';go_simp;with_reducible rfl);rotate_left;(simp only [ps_];rfl)
              refine pure_ (i := 1) (N := some 35) (v := ?_) (a' := ?_) (bm 24 3) rfl rfl (any_of HT_.out (by kernel_rfl)) (fun _ _ _ h => h) (Or.inl ⟨by rfl, ?_⟩) ?_ ?_;rotate_left;(intro w';go_simp;with_reducible rfl);rotate_left;(simp only [ps_];rfl)
              refine pure_ (i := 2) (N := some 36) (v := ?_) (a' := ?_) (bm 24 7) rfl rfl (any_of HT_.out (by kernel_rfl)) (fun _ _ _ h => h) (Or.inl ⟨by rfl, ?_⟩) ?_ ?_;rotate_left;(intro w';go_simp;with_reducible rfl);rotate_left;(simp only [ps_];rfl)
              refine pure_ (i := 3) (N := some 37) (v := ?_) (a' := ?_) (bm 24 15) rfl rfl (any_of HT_.out (by kernel_rfl)) (fun _ _ _ h => h) (Or.inl ⟨by rfl, ?_⟩) ?_ ?_;rotate_left;(intro w';go_simp;with_reducible rfl);rotate_left;(simp only [ps_];rfl)
              refine pure_ (i := 5) (N := some 39) (v := ?_) (a' := ?_) (bm 24 47) rfl rfl (any_of HT_.out (by kernel_rfl)) (fun _ _ _ h => h) (Or.inl ⟨by rfl, ?_⟩) ?_ ?_;rotate_left;(intro w';go_simp;with_reducible rfl);rotate_left;(simp only [ps_];rfl)
              refine pure_ (i := 6) (N := some 40) (v := ?_) (a' := ?_) (bm 24 111) rfl rfl (any_of HT_.out (by kernel_rfl)) (fun _ _ _ h => h) (Or.inl ⟨by rfl, ?_⟩) ?_ ?_;rotate_left;(intro w';go_simp;with_reducible rfl);rotate_left;(simp only [ps_];rfl)
              refine pure_ (i := 7) (N := some 41) (v := ?_) (a' := ?_) (bm 24 239) rfl rfl (any_of HT_.out (by kernel_rfl)) (fun _ _ _ h => h) (Or.inl ⟨by rfl, ?_⟩) ?_ ?_;rotate_left;(intro w';go_simp;with_reducible rfl);rotate_left;(simp only [ps_];rfl)
              refine pure_ (i := 8) (N := some 42) (v := ?_) (a' := ?_) (bm 24 495) rfl rfl (any_of HT_.out (by kernel_rfl)) (fun _ _ _ h => h) (Or.inl ⟨by rfl, ?_⟩) ?_ ?_;rotate_left;(intro w';go_simp;with_reducible rfl);rotate_left;(simp only [ps_];rfl)
              refine pure_ (i := 9) (N := some 43) (v := ?_) (a' := ?_) (bm 24 1007) rfl rfl (any_of HT_.out (by kernel_rfl)) (fun _ _ _ h => h) (Or.inl ⟨by rfl, ?_⟩) ?_ ?_;rotate_left;(intro w';go_simp;with_reducible rfl);rotate_left;(simp only [ps_];rfl)
              refine pure_ (i := 12) (N := some 46) (v := ?_) (a' := ?_) (bm 24 5103) rfl rfl (any_of HT_.out (by kernel_rfl)) (fun _ _ _ h => h) (Or.inl ⟨by rfl, ?_⟩) ?_ ?_;rotate_left;(intro w';go_simp;with_reducible rfl);rotate_left;(simp only [ps_];rfl)
              refine pure_ (i := 13) (N := some 47) (v := ?_) (a' := ?_) (bm 24 13295) rfl rfl (any_of HT_.out (by kernel_rfl)) (fun _ _ _ h => h) (Or.inl ⟨by rfl, ?_⟩) ?_ ?_;rotate_left;(intro w';go_simp;with_reducible rfl);rotate_left;(simp only [ps_];rfl)
              refine pure_ (i := 14) (N := some 48) (v := ?_) (a' := ?_) (bm 24 29679) rfl rfl (any_of HT_.out (by kernel_rfl)) (fun _ _ _ h => h) (Or.inl ⟨by rfl, ?_⟩) ?_ ?_;rotate_left;(intro w';go_simp;with_reducible rfl);rotate_left;(simp only [ps_];rfl)
              refine pure_ (i := 16) (N := some 50) (v := ?_) (a' := ?_) (bm 24 95215) rfl rfl (any_of HT_.out (by kernel_rfl)) (fun _ _ _ h => h) (Or.inl ⟨by rfl, ?_⟩) ?_ ?_;rotate_left;(intro w';go_simp;with_reducible rfl);rotate_left;(simp only [ps_];rfl)
              refine pure_ (i := 17) (N := some 51) (v := ?_) (a' := ?_) (bm 24 226287) rfl rfl (any_of HT_.out (by kernel_rfl)) (fun _ _ _ h => h) (Or.inl ⟨by rfl, ?_⟩) ?_ ?_;rotate_left;(intro w';go_simp;with_reducible rfl);rotate_left;(simp only [ps_];rfl)
              refine pure_ (i := 18) (N := some 52) (v := ?_) (a' := ?_) (bm 24 488431) rfl rfl (any_of HT_.out (by kernel_rfl)) (fun _ _ _ h => h) (Or.inl ⟨by rfl, ?_⟩) ?_ ?_;rotate_left;(intro w';go_simp;with_reducible rfl);rotate_left;(simp only [ps_];rfl)
              refine take_ (i := 4) (N := some 38) (v := ?_) (a' := ?_) (bm 24 488447) rfl rfl (take_ofW HT_.out HW_.out (by kernel_rfl)) (fun _ _ _ h => h) (Or.inl ⟨by rfl, ?_⟩) hHeld ?_ ?_;rotate_left;(rintro w' ⟨s0, s1, s2, s3, s4, s5⟩;go_simp;with_reducible rfl);rotate_left;(simp only [ps_];rfl)
              refine take_ (i := 10) (N := some 44) (v := ?_) (a' := ?_) (bm 24 489471) rfl rfl (take_ofW HT_.out HW_.out (by kernel_rfl)) (fun _ _ _ h => h) (Or.inl ⟨by rfl, ?_⟩) hHeld ?_ ?_;rotate_left;(rintro w' ⟨s0, s1, s2, s3, s4, s5⟩;go_simp;with_reducible rfl);rotate_left;(simp only [ps_];rfl)
              refine take_ (i := 11) (N := some 45) (v := ?_) (a' := ?_) (bm 24 491519) rfl rfl (take_ofW HT_.out HW_.out (by kernel_rfl)) (fun _ _ _ h => h) (Or.inl ⟨by rfl, ?_⟩) hHeld ?_ ?_;rotate_left;(rintro w' ⟨s0, s1, s2, s3, s4, s5⟩;go_simp;with_reducible rfl);rotate_left;(simp only [ps_];rfl)
              refine take_ (i := 15) (N := some 49) (v := ?_) (a' := ?_) (bm 24 524287) rfl rfl (take_ofW HT_.out HW_.out (by kernel_rfl)) (fun _ _ _ h => h) (Or.inl ⟨by rfl, ?_⟩) hHeld ?_ ?_;rotate_left;(rintro w' ⟨s0, s1, s2, s3, s4, s5⟩;go_simp;with_reducible rfl);rotate_left;(simp only [ps_];rfl)
              refine take_ (i := 19) (N := some 53) (v := ?_) (a' := ?_) (bm 24 1048575) rfl rfl (take_ofW HT_.out HW_.out (by kernel_rfl)) (fun _ _ _ h => h) (Or.inl ⟨by rfl, ?_⟩) hHeld ?_ ?_;rotate_left;(rintro w' ⟨s0, s1, s2, s3, s4, s5⟩;go_simp;with_reducible rfl);rotate_left;(simp only [ps_];rfl)
              refine one_ (i := 20) (N := some 54) (bm 24 2097151) rfl rfl (one_of HT_.out (by kernel_rfl)) (by decide) (fun K hK => ?_)
              refine goes_ Try.func38 (by kernel_rfl) rfl #[.agg #[.int .i64 a0_0, .int .i64 a0_1, .slice A0_2 l0_2.length c0_2], .int .i64 (rd t651 x8_1), .int .i64 (rd t654 x9_2)] (by rfl) rfl rfl (by ((simp only [List.map_toArray, List.map_cons, List.map_nil])); (rfl)) ?_
              with_reducible refine (codewrightref04_Mul.calls k2 a0_0 a0_1 _ _ l0_2 (rd t651 x8_1) (rd t654 x9_2) t666 _ ?side1 ?side2 A26.out).mono ?_
              (case side1 => repeat ((exact (Kd.C_below HR0_2.out HB.out))))
              (case side2 => exact HC0_2.out)
              rintro e w31 ⟨rfl, hb⟩
              have HS3_ := (hb.cell (World.block_lt_of_cell? _ _ (hHeld.2.2.2.1))).trans (hHeld.2.2.2.1)
              have HS4_ := (hb.cell (World.block_lt_of_cell? _ _ (hHeld.2.2.2.2.1))).trans (hHeld.2.2.2.2.1)
              have HS5_ := (hb.cell (World.block_lt_of_cell? _ _ (hHeld.2.2.2.2.2))).trans (hHeld.2.2.2.2.2)
              refine ⟨_, rfl, ?_⟩
              have n0_ := Aside0.mk (Kd.R_below HO_1.out hb)
              have n1_ := Aside0.mk (Kd.R_below HO_2.out hb)
              have n2_ := Aside0.mk (Kd.R_below HO_7.out hb)
              have n3_ := Aside0.mk (blk_below (g := gb650) (o := .cells #[.int .i64 a0_0, .int .i64 a0_1, .slice A0_2 l0_2.length c0_2] 24 (0, 0)) BK650.out hb)
              have n4_ := Aside0.mk (below_step HB.out hb)
              clear HO_1 HO_2 HO_7 BK650 HB
              have HO_1 := n0_
              have HO_2 := n1_
              have HO_7 := n2_
              have BK650 := n3_
              have HB := n4_
              clear n0_ n1_ n2_ n3_ n4_
              ((clear hb))
              refine hK.out _ _ ⟨(blk_cell BK650.out 0).trans rfl, (blk_cell BK650.out 1).trans rfl, (blk_cell BK650.out 2).trans rfl, HS3_, HS4_, HS5_⟩ (fun hHeld => ?_)
              clear hK K
              refine norm_ (a' := ?_) ?_ ?_
              rotate_left
              ·show Act.put _ (some 54) _ = _
               simp only [Act.put, List.setIfInBounds_toArray, List.set_cons_zero, List.set_cons_succ, i64_w, i32_w]
               rfl
              refine one_ (i := 21) (N := some 55) (bm 24 4194303) rfl rfl (one_of HT_.out (by kernel_rfl)) (by decide) (fun K hK => ?_)
              refine goes_ Try.func55 (by kernel_rfl) rfl #[.agg #[.int .i64 a0_0, .int .i64 a0_1, .slice A0_2 l0_2.length c0_2], .int .i64 (rd x7_2 (ji20)), .int .i64 t666] (by rfl) rfl rfl (by ((simp only [List.map_toArray, List.map_cons, List.map_nil])); (rfl)) ?_
              with_reducible refine (codewrightref04_Add.calls k2 a0_0 a0_1 _ _ l0_2 (rd x7_2 (ji20)) t666 t667 _ ?side1 ?side2 A27.out).mono ?_
              (case side1 => repeat ((exact (Kd.C_below HR0_2.out HB.out))))
              (case side2 => exact HC0_2.out)
              rintro e w32 ⟨rfl, hb⟩
              have HS3_ := (hb.cell (World.block_lt_of_cell? _ _ (hHeld.2.2.2.1))).trans (hHeld.2.2.2.1)
              have HS4_ := (hb.cell (World.block_lt_of_cell? _ _ (hHeld.2.2.2.2.1))).trans (hHeld.2.2.2.2.1)
              have HS5_ := (hb.cell (World.block_lt_of_cell? _ _ (hHeld.2.2.2.2.2))).trans (hHeld.2.2.2.2.2)
              refine ⟨_, rfl, ?_⟩
              have n0_ := Aside0.mk (Kd.R_below HO_1.out hb)
              have n1_ := Aside0.mk (Kd.R_below HO_2.out hb)
              have n2_ := Aside0.mk (Kd.R_below HO_7.out hb)
              have n3_ := Aside0.mk (blk_below (g := gb650) (o := .cells #[.int .i64 a0_0, .int .i64 a0_1, .slice A0_2 l0_2.length c0_2] 24 (0, 0)) BK650.out hb)
              have n4_ := Aside0.mk (below_step HB.out hb)
              clear HO_1 HO_2 HO_7 BK650 HB
              have HO_1 := n0_
              have HO_2 := n1_
              have HO_7 := n2_
              have BK650 := n3_
              have HB := n4_
              clear n0_ n1_ n2_ n3_ n4_
              ((clear hb))
              have p28 : 0 ≤ ((ji20) : Int) := of_decide_eq_true (by (with_reducible assumption))
              have q28 : ((ji20) : Int) < ((x7_2.length : Int) : Int) := of_decide_eq_true (by (with_reducible assumption))
              obtain ⟨go28, co28, eo28, gb28, gl28, cl28, HG28⟩ := Kd.R_form HO_7.out (by omega)
              ((cases eo28))
              have GB28 := Aside0.mk gb28
              have GG28 := Aside0.mk HG28
              clear gb28 gl28 HG28
              ((simp only [add_plain] at hx663_0))
              obtain ⟨hx28_0, hf28_0⟩ := Kd.R_celln 0 HO_7.out ((ji20) : Int) p28 q28
              replace p28 := eq_true p28
              replace q28 := eq_true q28
              have HP33 := Kd.R_putn HO_7.out ((ji20) : Int) t667
              rw [← Ny668.out] at HP33
              have HQ33 := Aside0.mk HP33
              clear HP33
              refine hK.out _ _ ⟨(blk_cell BK650.out 0).trans rfl, (blk_cell BK650.out 1).trans rfl, (blk_cell BK650.out 2).trans rfl, HS3_, HS4_, HS5_⟩ (fun hHeld => ?_)
              clear hK K
              refine norm_ (a' := ?_) ?_ ?_
              rotate_left
              ·show Act.put _ (some 55) _ = _
               simp only [Act.put, List.setIfInBounds_toArray, List.set_cons_zero, List.set_cons_succ, i64_w, i32_w]
               rfl
              refine pure_ (i := 22) (N := some 56) (v := ?_) (a' := ?_) (bm 24 8388607) rfl rfl (any_of HT_.out (by kernel_rfl)) (fun _ _ _ h => h) (Or.inl ⟨by rfl, ?_⟩) ?_ ?_;rotate_left;(intro w';go_simp;with_reducible rfl);rotate_left;(simp only [ps_];rfl)
              refine last_ (i := 23) (N := none) (bm 24 16777215) rfl rfl (one_of HT_.out (by kernel_rfl)) (by decide) (fun K hK => ?_)
              refine skip_ (w1 := ?_) (by rfl) rfl ?_ ?_
              rotate_left
              ·go_simp
               rfl
              refine hK.out _ _ ?_
              clear hK K
              refine done_ (done_of HT_.out (by kernel_rfl)) ?_
              (go_wp2)
              go_roundg k2
              case measure => have := HK1.out; have := HK2.out; omega
              case rel => exact ⟨(y668), (wrap64 (x9_2 + 1)), (by rfl), H', ⟨by have := HK1.out; have := HK2.out; omega⟩, ⟨by exact Kd.R_mono (Kd.R_far (p := ⟨go28, ((ji20) : Int).toNat, none⟩) (Kd.R_mono HO_1.out (fun k_ hk => (⟨hk, fun e_ => hk.2 (by rw [e_]; rfl)⟩ : _ ∧ k_ ≠ go28))) (fun _ hk => hk.2) (.int .i64 t667)) (fun _ hk => ⟨hk.1.1, hk.1.2⟩)⟩, ⟨by exact Kd.R_mono (Kd.R_far (p := ⟨go28, ((ji20) : Int).toNat, none⟩) (Kd.R_mono HO_2.out (fun k_ hk => (⟨hk, fun e_ => hk.2 (by rw [e_]; rfl)⟩ : _ ∧ k_ ≠ go28))) (fun _ hk => hk.2) (.int .i64 t667)) (fun _ hk => ⟨hk.1.1, hk.1.2⟩)⟩, ⟨HQ33.out⟩, ⟨by (with_reducible repeat (fail)); refine blk_far ?_ (by have h_ := Kd.R_ne HO_7.out BK650.out (by decide); intro e_; exact h_ (by rw [e_]; rfl)) _; (with_reducible repeat (fail)); exact BK650.out⟩, ⟨by repeat ((with_reducible first | (exact HB.out) | (refine below_set ?_ GB28.out)))⟩⟩
             ·rw [if_neg c25] at H
              exact absurd H (by simp)
            ·rw [if_neg c24] at H
             exact absurd H (by simp)
           ·rw [if_neg c23] at H
            exact absurd H (by simp)
          ·rw [if_neg c22] at H
           exact absurd H (by simp)
         ·rw [if_neg c21] at H
          exact absurd H (by simp)
        ·rw [if_neg c19] at H
         have c19b0 : decide (x9_2 < (t654.length : Int)) = false := decide_eq_false c19
         clear c19
         have H' := Aside0.mk H
         clear H
         go_wp2
         go_roundg k2
         case measure => have := HK1.out; have := HK2.out; omega
         case rel => exact ⟨(x7_2), (wrap64 (x8_1 + 1)), (by rfl), H', ⟨by have := HK1.out; have := HK2.out; omega⟩, ⟨HO_1.out⟩, ⟨HO_2.out⟩, ⟨HO_7.out⟩, ⟨BK650.out⟩, ⟨HB.out⟩⟩
     ·rw [if_neg c18] at H
      have c18b0 : decide (x8_1 < (t651.length : Int)) = false := decide_eq_false c18
      clear c18
      obtain ⟨t660, A340, H⟩ := Option.bind_eq_some_iff.mp H
      replace H : (some t660) = some r := H
      have A34 := Aside0.mk A340
      clear A340
      obtain rfl := Option.some.inj H
      have hcz35_0 : wr.cell? ⟨gb650, 0, none⟩ = some (.int .i64 a0_0) := (blk_cell BK650.out 0).trans rfl
      have hcz35_1 : wr.cell? ⟨gb650, 1, none⟩ = some (.int .i64 a0_1) := (blk_cell BK650.out 1).trans rfl
      have hcz35_2 : wr.cell? ⟨gb650, 2, none⟩ = some (.slice A0_2 l0_2.length c0_2) := (blk_cell BK650.out 2).trans rfl
      have hfz35_0 := blk_frozen BK650.out 0
      have hfz35_1 := blk_frozen BK650.out 1
      have hfz35_2 := blk_frozen BK650.out 2
      obtain ⟨Ao36, co36, eo36⟩ := Kd.R_slice HO_7.out
      subst eo36
      go_wp2_with (((with_reducible refine gate_callee (f := 23) rfl ?_); refine goesL_ (some 59) rfl rfl Try.func23 (by kernel_rfl) rfl #[.agg #[.int .i64 a0_0, .int .i64 a0_1, .slice A0_2 l0_2.length c0_2], .slice Ao36 x7_1.length co36] rfl (by ((simp only [List.map_toArray, List.map_cons, List.map_nil])); (rfl)) ?_; (with_reducible refine (codewrightref05_Canon.calls k1 a0_0 a0_1 _ _ l0_2 _ _ x7_1 t660 _ ?side1 ?side2 ?side3 ?side4 A34.out).mono ?_); (case side1 => repeat ((exact (Kd.C_below HR0_2.out HB.out)))); (case side2 => exact HC0_2.out); (case side3 => repeat ((exact (Kd.R_reads' HO_7.out).2.2))); (case side4 => exact (Kd.R_reads' HO_7.out).2.1); rintro e w37 ⟨v661, rfl, ho0, hb⟩; refine ⟨_, rfl, ?_⟩; have n0_ := Aside0.mk (Kd.R_elder' HO_1.out (Kd.R_base ho0) hb); have n1_ := Aside0.mk (Kd.R_elder' HO_2.out (Kd.R_base ho0) hb); have n2_ := Aside0.mk (Kd.R_elder' HO_7.out (Kd.R_base ho0) hb); have n3_ := Aside0.mk (Kd.R_lower (Kd.R_new' (Kd.R_new' (Kd.R_new' ho0 (Kd.R_lt HO_1.out)) (Kd.R_lt HO_2.out)) (Kd.R_lt HO_7.out)) (below_size HB.out)); have n4_ := Aside0.mk (blk_below (g := gb650) (o := .cells #[.int .i64 a0_0, .int .i64 a0_1, .slice A0_2 l0_2.length c0_2] 24 (0, 0)) BK650.out hb); have n5_ := Aside0.mk (below_step HB.out hb); clear HO_1; clear HO_2; clear HO_7; clear BK650; clear HB; have HO_1 := n0_; have HO_2 := n1_; have HO_7 := n2_; have HO662 := n3_; have BK650 := n4_; have HB := n5_; clear n0_ n1_ n2_ n3_ n4_ n5_; ((clear hb)); (skip); (skip); (skip); ((clear ho0))))
      go_ret
      exact ⟨_, by rfl, by exact Kd.R_mono HO662.out (fun _ hk => trivial), by exact HB.out⟩
  ·rw [if_neg c8] at H
   exact absurd H (by simp)
 ·rw [if_neg c7] at H
  exact absurd H (by simp)
def codewrightref05_At.f (k : Nat) (a0_0 : Int) (a0_1 : Int) (l0_2 : List Int) (l1 : List Int) (a2 : Int) : Option (Int) := if a2 < 0 then (some 0) else (if a2 ≥ (l1.length : Int) then (some 0) else (if 0 ≤ a2 then (if a2 < (l1.length : Int) then ((codewrightref04_In.f k a0_0 a0_1 l0_2 (rd l1 a2)).bind fun t671 => (some t671)) else (none)) else (none)))
set_option maxHeartbeats 8000000 in
set_option maxRecDepth 100000 in
theorem codewrightref05_At.calls (k : Nat) (a0_0 : Int) (a0_1 : Int) (A0_2 : Option Addr) (c0_2 : Nat) (l0_2 : List Int) (A1 : Option Addr) (c1 : Nat) (l1 : List Int) (a2 : Int) (r : Int) (w : World) (hr0_2 : Kd.C (Kd.int .i64) w A0_2 l0_2.length l0_2) (hc0_2 : l0_2.length ≤ c0_2) (hr1 : Kd.C (Kd.int .i64) w A1 l1.length l1) (hc1 : l1.length ≤ c1) (h : codewrightref05_At.f k a0_0 a0_1 l0_2 l1 a2 = some r) :
  Calls Try.prog 56 #[.agg #[.int .i64 a0_0, .int .i64 a0_1, .slice A0_2 l0_2.length c0_2], .slice A1 l1.length c1, .int .i64 a2] w fun e w' => e = .returned (.int .i64 r) ∧ Below w.heap.size w w' := by
 have hu24 := Try.underlying24
 have HR0_2 := Aside0.mk hr0_2
 have HC0_2 := Aside0.mk hc0_2
 clear hr0_2 hc0_2
 have HR1 := Aside0.mk hr1
 have HC1 := Aside0.mk hc1
 clear hr1 hc1
 have HB := Aside0.mk (Below.refl w.heap.size w)
 have H : (if a2 < 0 then (some 0) else (if a2 ≥ (l1.length : Int) then (some 0) else (if 0 ≤ a2 then (if a2 < (l1.length : Int) then ((codewrightref04_In.f k a0_0 a0_1 l0_2 (rd l1 a2)).bind fun t671 => (some t671)) else (none)) else (none)))) = some r := h
 clear h
 by_cases c4 : a2 < 0
 ·rw [if_pos c4] at H
  have c4b0 : decide (a2 < 0) = true := decide_eq_true c4
  clear c4
  obtain rfl := Option.some.inj H
  go_enter Try.func56, Try.ntmps56
  go_wp2_with (((with_reducible refine gate_dst (N := 3) rfl ?_); ((refine gate_guard (by rfl) ?_; dsimp only)); refine box_event ?hg (N := 3) ?hd (cs := #[.int .i64 a0_0, .int .i64 a0_1, .slice A0_2 l0_2.length c0_2]) (t := 24) ?hr ?_; (case hd => rfl); (case hg => rfl); (case hr => (go_simp; done)); intro gb669 hg w5 hbox hb; have n0_ := Aside0.mk (below_step HB.out hb); have n1_ := Aside0.mk (hbox); have n2_ := Aside0.mk ((by rw [hg]; exact (below_size HB.out) : w.heap.size ≤ gb669)); have n3_ := Aside0.mk ((by rw [hg]; exact (below_size HB.out) : w.heap.size ≤ gb669)); clear HB; have HB := n0_; have BK669 := n1_; have GW669 := n2_; have GE669 := n3_; clear n0_ n1_ n2_ n3_; clear hb hbox hg))
  go_ret
  exact ⟨by rfl, by exact HB.out⟩
 ·rw [if_neg c4] at H
  have c4b0 : decide (a2 < 0) = false := decide_eq_false c4
  clear c4
  by_cases c6 : a2 ≥ (l1.length : Int)
  ·rw [if_pos c6] at H
   have c6b0 : decide ((l1.length : Int) ≤ a2) = true := decide_eq_true c6
   clear c6
   obtain rfl := Option.some.inj H
   go_enter Try.func56, Try.ntmps56
   go_wp2_with (((with_reducible refine gate_dst (N := 3) rfl ?_); ((refine gate_guard (by rfl) ?_; dsimp only)); refine box_event ?hg (N := 3) ?hd (cs := #[.int .i64 a0_0, .int .i64 a0_1, .slice A0_2 l0_2.length c0_2]) (t := 24) ?hr ?_; (case hd => rfl); (case hg => rfl); (case hr => (go_simp; done)); intro gb669 hg w7 hbox hb; have n0_ := Aside0.mk (below_step HB.out hb); have n1_ := Aside0.mk (hbox); have n2_ := Aside0.mk ((by rw [hg]; exact (below_size HB.out) : w.heap.size ≤ gb669)); have n3_ := Aside0.mk ((by rw [hg]; exact (below_size HB.out) : w.heap.size ≤ gb669)); clear HB; have HB := n0_; have BK669 := n1_; have GW669 := n2_; have GE669 := n3_; clear n0_ n1_ n2_ n3_; clear hb hbox hg))
   go_ret
   exact ⟨by rfl, by exact HB.out⟩
  ·rw [if_neg c6] at H
   have c6b0 : decide ((l1.length : Int) ≤ a2) = false := decide_eq_false c6
   clear c6
   by_cases c8 : 0 ≤ a2
   ·rw [if_pos c8] at H
    have c8b0 : decide (0 ≤ a2) = true := decide_eq_true c8
    clear c8
    by_cases c9 : a2 < (l1.length : Int)
    ·rw [if_pos c9] at H
     have c9b0 : decide (a2 < (l1.length : Int)) = true := decide_eq_true c9
     clear c9
     obtain ⟨t671, A100, H⟩ := Option.bind_eq_some_iff.mp H
     replace H : (some t671) = some r := H
     have A10 := Aside0.mk A100
     clear A100
     obtain rfl := Option.some.inj H
     go_enter Try.func56, Try.ntmps56
     (go_wp2_with (((with_reducible refine gate_dst (N := 3) rfl ?_); ((refine gate_guard (by rfl) ?_; dsimp only)); refine box_event ?hg (N := 3) ?hd (cs := #[.int .i64 a0_0, .int .i64 a0_1, .slice A0_2 l0_2.length c0_2]) (t := 24) ?hr ?_; (case hd => rfl); (case hg => rfl); (case hr => (go_simp; done)); intro gb669 hg w11 hbox hb; have n0_ := Aside0.mk (below_step HB.out hb); have n1_ := Aside0.mk (hbox); have n2_ := Aside0.mk ((by rw [hg]; exact (below_size HB.out) : w.heap.size ≤ gb669)); have n3_ := Aside0.mk ((by rw [hg]; exact (below_size HB.out) : w.heap.size ≤ gb669)); clear HB; have HB := n0_; have BK669 := n1_; have GW669 := n2_; have GE669 := n3_; clear n0_ n1_ n2_ n3_; clear hb hbox hg)))
     have n0_ := Aside0.mk (blk_drew BK669.out)
     have n1_ := Aside0.mk (below_drew1 HB.out)
     clear BK669 HB
     have BK669 := n0_
     have HB := n1_
     clear n0_ n1_
     have p670 : 0 ≤ (a2 : Int) := of_decide_eq_true (by (with_reducible assumption))
     have q670 : a2 < (l1.length : Int) := of_decide_eq_true (by (with_reducible assumption))
     obtain ⟨ad670, e670, hx670_0⟩ := Kd.at_int HR1.out a2 p670 q670
     have hw670_0 := hx670_0
     cases e670
     replace hx670_0 := (HB.out.cell (World.block_lt_of_cell? w _ hx670_0)).trans hx670_0
     replace p670 := eq_true p670
     replace q670 := eq_true q670
     refine start_ (n := 7) (S := fun w' => w'.cell? ⟨gb669, 0, none⟩ = some (.int .i64 a0_0) ∧ w'.cell? ⟨gb669, 1, none⟩ = some (.int .i64 a0_1) ∧ w'.cell? ⟨gb669, 2, none⟩ = some (.slice A0_2 l0_2.length c0_2) ∧ w'.cell? (ad670.add (a2).toNat) = some (.int .i64 (rd l1 a2))) (ds := []) (bm 7 0) (by kernel_rfl) rfl rfl ⟨(blk_cell BK669.out 0).trans rfl, (blk_cell BK669.out 1).trans rfl, (blk_cell BK669.out 2).trans rfl, ((HB.out.cell (World.block_lt_of_cell? w _ hw670_0)).trans hw670_0)⟩ (fun hHeld => ?_)
     generalize w11.drew = w12 at BK669 HB hx670_0 hHeld ⊢
     refine pure_ (i := 1) (N := some 16) (v := ?_) (a' := ?_) (bm 7 2) rfl rfl (by kernel_rfl) (fun _ _ _ h => h) (Or.inl ⟨by rfl, ?_⟩) ?_ ?_;rotate_left;(intro w';go_simp;with_reducible rfl);rotate_left;(simp only [ps_];rfl)
     refine pure_ (i := 2) (N := some 17) (v := ?_) (a' := ?_) (bm 7 6) rfl rfl (by kernel_rfl) (fun _ _ _ h => h) (Or.inl ⟨by rfl, ?_⟩) ?_ ?_;rotate_left;(intro w';go_simp;with_reducible rfl);rotate_left;(simp only [ps_];rfl)
     refine pure_ (i := 3) (N := some 18) (v := ?_) (a' := ?_) (bm 7 14) rfl rfl (by kernel_rfl) (fun _ _ _ h => h) (Or.inl ⟨by rfl, ?_⟩) ?_ ?_;rotate_left;(intro w';go_simp;with_reducible rfl);rotate_left;(simp only [ps_];rfl)
     refine take_ (i := 0) (N := some 15) (v := ?_) (a' := ?_) (bm 7 15) rfl rfl (by kernel_rfl) (fun _ _ _ h => h) (Or.inl ⟨by rfl, ?_⟩) hHeld ?_ ?_;rotate_left;(rintro w' ⟨s0, s1, s2, s3⟩;go_simp;with_reducible rfl);rotate_left;(simp only [ps_];rfl)
     refine take_ (i := 4) (N := some 19) (v := ?_) (a' := ?_) (bm 7 31) rfl rfl (by kernel_rfl) (fun _ _ _ h => h) (Or.inl ⟨by rfl, ?_⟩) hHeld ?_ ?_;rotate_left;(rintro w' ⟨s0, s1, s2, s3⟩;go_simp;with_reducible rfl);rotate_left;(simp only [ps_];rfl)
     refine one_ (i := 5) (N := some 20) (bm 7 63) rfl rfl (by kernel_rfl) (by decide) (fun K hK => ?_)
     refine goes_ Try.func31 (by kernel_rfl) rfl #[.agg #[.int .i64 a0_0, .int .i64 a0_1, .slice A0_2 l0_2.length c0_2], .int .i64 (rd l1 a2)] (by rfl) rfl rfl (by ((simp only [List.map_toArray, List.map_cons, List.map_nil])); (rfl)) ?_
     with_reducible refine (codewrightref04_In.calls k a0_0 a0_1 _ _ l0_2 (rd l1 a2) t671 _ ?side1 ?side2 A10.out).mono ?_
     (case side1 => repeat ((exact (Kd.C_below HR0_2.out HB.out))))
     (case side2 => exact HC0_2.out)
     rintro e w13 ⟨rfl, hb⟩
     refine ⟨_, rfl, ?_⟩
     have n0_ := Aside0.mk (blk_below (g := gb669) (o := .cells #[.int .i64 a0_0, .int .i64 a0_1, .slice A0_2 l0_2.length c0_2] 24 (0, 0)) BK669.out hb)
     have n1_ := Aside0.mk (below_step HB.out hb)
     clear BK669 HB
     have BK669 := n0_
     have HB := n1_
     clear n0_ n1_
     ((clear hb))
     refine hK.out _ _ ⟨(blk_cell BK669.out 0).trans rfl, (blk_cell BK669.out 1).trans rfl, (blk_cell BK669.out 2).trans rfl, ((HB.out.cell (World.block_lt_of_cell? w _ hw670_0)).trans hw670_0)⟩ (fun hHeld => ?_)
     clear hK K
     refine norm_ (a' := ?_) ?_ ?_
     rotate_left
     ·show Act.put _ (some 20) _ = _
      simp only [Act.put, List.setIfInBounds_toArray, List.set_cons_zero, List.set_cons_succ, i64_w, i32_w]
      rfl
     refine pure_ (i := 6) (N := some 6) (v := ?_) (a' := ?_) (bm 7 127) rfl rfl (by kernel_rfl) (fun _ _ _ h => h) (Or.inl ⟨by rfl, ?_⟩) ?_ ?_;rotate_left;(intro w';go_simp;with_reducible rfl);rotate_left;(simp only [ps_];rfl)
     refine done_ (by kernel_rfl) ?_
     (go_wp2)
     go_ret
     exact ⟨by rfl, by exact HB.out⟩
    ·rw [if_neg c9] at H
     exact absurd H (by simp)
   ·rw [if_neg c8] at H
    exact absurd H (by simp)
end Go.Proofs.Ytkdakjlopheefaa.PA
end
section
namespace Go.Proofs.Ytkdakjlopheefaa.PA
open Go.RowKit Go.Proofs.YtkdakjlopheefaaW.PrintWords Go.Proofs.YtkdakjlopheefaaW.PrintLast Go.Proofs.YtkdakjlopheefaaW.PrintMore
attribute [local go_sem] max2_int min2_int max_two min_two max_three min_three max_four min_four
set_option linter.unusedVariables false
set_option linter.unusedSimpArgs false
mutual
def codewrightref38_Holds.l0 : Nat → Int → List Int → List Int → Int → Int → Int → Int → List Int → Option (Bool)
 | 0, _, _, _, _, _, _, _, _ => none
 | k + 1, x2, x4, x11, x12, x13, x673000, x673001, x673002 => if x13 < x2 then (codewrightref38_Holds.j1 k x2 x4 x11 x12 x13 (decide (x13 < x12)) x673000 x673001 x673002) else (codewrightref38_Holds.j1 k x2 x4 x11 x12 x13 false x673000 x673001 x673002)
def codewrightref38_Holds.j1 : Nat → Int → List Int → List Int → Int → Int → Bool → Int → Int → List Int → Option (Bool)
 | 0, _, _, _, _, _, _, _, _, _ => none
 | k + 1, x2, x4, x11, x12, x13, x30, x673000, x673001, x673002 => if x30 = true then ((codewrightref05_At.f k x673000 x673001 x673002 x11 x13).bind fun t676 => ((codewrightref05_At.f k x673000 x673001 x673002 x4 x13).bind fun t677 => (if t676 = t677 then (codewrightref38_Holds.l0 k x2 x4 x11 x12 (wrap64 (x13 + 1)) x673000 x673001 x673002) else (some false)))) else (some true)
end
def codewrightref38_Holds.f (k : Nat) (a0_0 : Int) (a0_1 : Int) (l0_2 : List Int) (l1 : List Int) (a2 : Int) (l3 : List Int) (l4 : List Int) : Option (Bool) := (codewrightref05_Mul.f k a0_0 a0_1 l0_2 l3 l1).bind fun t673 => (codewrightref38_Holds.l0 k a2 l4 t673 (mx (t673.length : Int) (l4.length : Int)) 0 a0_0 a0_1 l0_2)
def codewrightref38_Holds.T6 : Bool × List (List Nat × List Nat) := (true, [([], []), ([], []), ([], []), ([0, 1, 2], [0, 1, 2]), ([], []), ([], []), ([], []), ([4, 5, 6, 3], [4, 5, 6]), ([3, 7], [3, 7])])
def codewrightref38_Holds.B6 : List Nat := [0, 0, 0, 7, 0, 0, 0, 127, 255]
theorem codewrightref38_Holds.tab6 : rtab .any (opsOf Try.f36 6) = codewrightref38_Holds.T6 := by kernel_rfl
theorem codewrightref38_Holds.bits6 : waitsOk codewrightref38_Holds.T6.2 codewrightref38_Holds.B6 = true := by kernel_rfl
set_option maxHeartbeats 8000000 in
set_option maxRecDepth 100000 in
theorem codewrightref38_Holds.calls (k : Nat) (a0_0 : Int) (a0_1 : Int) (A0_2 : Option Addr) (c0_2 : Nat) (l0_2 : List Int) (A1 : Option Addr) (c1 : Nat) (l1 : List Int) (a2 : Int) (A3 : Option Addr) (c3 : Nat) (l3 : List Int) (A4 : Option Addr) (c4 : Nat) (l4 : List Int) (r : Bool) (w : World) (hr0_2 : Kd.C (Kd.int .i64) w A0_2 l0_2.length l0_2) (hc0_2 : l0_2.length ≤ c0_2) (hr1 : Kd.C (Kd.int .i64) w A1 l1.length l1) (hc1 : l1.length ≤ c1) (hr3 : Kd.C (Kd.int .i64) w A3 l3.length l3) (hc3 : l3.length ≤ c3) (hr4 : Kd.C (Kd.int .i64) w A4 l4.length l4) (hc4 : l4.length ≤ c4) (h : codewrightref38_Holds.f k a0_0 a0_1 l0_2 l1 a2 l3 l4 = some r) :
  Calls Try.prog 36 #[.agg #[.int .i64 a0_0, .int .i64 a0_1, .slice A0_2 l0_2.length c0_2], .slice A1 l1.length c1, .int .i64 a2, .slice A3 l3.length c3, .slice A4 l4.length c4] w fun e w' => e = .returned (.bool r) ∧ Below w.heap.size w w' := by
 have hu24 := Try.underlying24
 have HR0_2 := Aside0.mk hr0_2
 have HC0_2 := Aside0.mk hc0_2
 clear hr0_2 hc0_2
 have HR1 := Aside0.mk hr1
 have HC1 := Aside0.mk hc1
 clear hr1 hc1
 have HR3 := Aside0.mk hr3
 have HC3 := Aside0.mk hc3
 clear hr3 hc3
 have HR4 := Aside0.mk hr4
 have HC4 := Aside0.mk hc4
 clear hr4 hc4
 have HB := Aside0.mk (Below.refl w.heap.size w)
 have H : ((codewrightref05_Mul.f k a0_0 a0_1 l0_2 l3 l1).bind fun t673 => (codewrightref38_Holds.l0 k a2 l4 t673 (mx (t673.length : Int) (l4.length : Int)) 0 a0_0 a0_1 l0_2)) = some r := h
 clear h
 obtain ⟨t673, A60, H⟩ := Option.bind_eq_some_iff.mp H
 replace H : (codewrightref38_Holds.l0 k a2 l4 t673 (mx (t673.length : Int) (l4.length : Int)) 0 a0_0 a0_1 l0_2) = some r := H
 have A6 := Aside0.mk A60
 clear A60
 obtain ⟨ji7, hji7⟩ : ∃ j_ : Int, (mx (t673.length : Int) (l4.length : Int)) = j_ := ⟨_, rfl⟩
 replace H : (codewrightref38_Holds.l0 k a2 l4 t673 ji7 0 a0_0 a0_1 l0_2) = some r := by (rw [hji7] at H; exact H)
 ((have hji7l : 0 ≤ ji7 := by (rw [← hji7]; unfold mx; (repeat' split) <;> omega)))
 ((have hji7m : 0 ≤ ji7 := by omega))
 have hji7_ : (if (t673.length : Int) < (l4.length : Int) then (l4.length : Int) else (t673.length : Int)) = ji7 := hji7
 have hji7n : (if t673.length < l4.length then (l4.length : Int) else (t673.length : Int)) = ji7 := by rw [← hji7_]; simp only [Int.ofNat_lt]
 have H' := Aside0.mk H
 clear H
 go_enter Try.func36, Try.ntmps36
 go_wp2_with (first | ((with_reducible refine gate_dst (N := 5) rfl ?_); refine box_event ?hg (N := 5) ?hd (cs := #[.int .i64 a0_0, .int .i64 a0_1, .slice A0_2 l0_2.length c0_2]) (t := 24) ?hr ?_; (case hd => rfl); (case hg => rfl); (case hr => (go_simp; done)); intro gb672 hg w8 hbox hb; have n0_ := Aside0.mk (below_step HB.out hb); have n1_ := Aside0.mk (hbox); have n2_ := Aside0.mk ((by rw [hg]; exact (below_size HB.out) : w.heap.size ≤ gb672)); have n3_ := Aside0.mk ((by rw [hg]; exact (below_size HB.out) : w.heap.size ≤ gb672)); clear HB; have HB := n0_; have BK672 := n1_; have GW672 := n2_; have GE672 := n3_; clear n0_ n1_ n2_ n3_; clear hb hbox hg; have hcz9_0 : w8.cell? ⟨gb672, 0, none⟩ = some (.int .i64 a0_0) := (blk_cell BK672.out 0).trans rfl; have hcz9_1 : w8.cell? ⟨gb672, 1, none⟩ = some (.int .i64 a0_1) := (blk_cell BK672.out 1).trans rfl; have hcz9_2 : w8.cell? ⟨gb672, 2, none⟩ = some (.slice A0_2 l0_2.length c0_2) := (blk_cell BK672.out 2).trans rfl; have hfz9_0 := blk_frozen BK672.out 0; have hfz9_1 := blk_frozen BK672.out 1; have hfz9_2 := blk_frozen BK672.out 2) | ((with_reducible refine gate_callee (f := 28) rfl ?_); refine goesL_ (some 17) rfl rfl Try.func28 (by kernel_rfl) rfl #[.agg #[.int .i64 a0_0, .int .i64 a0_1, .slice A0_2 l0_2.length c0_2], .slice A3 l3.length c3, .slice A1 l1.length c1] rfl (by ((simp only [List.map_toArray, List.map_cons, List.map_nil])); (rfl)) ?_; (with_reducible refine (codewrightref05_Mul.calls k a0_0 a0_1 _ _ l0_2 _ _ l3 _ _ l1 t673 _ ?side1 ?side2 ?side3 ?side4 ?side5 ?side6 A6.out).mono ?_); (case side1 => repeat ((exact (Kd.C_below HR0_2.out HB.out)))); (case side2 => exact HC0_2.out); (case side3 => repeat ((exact (Kd.C_below HR3.out HB.out)))); (case side4 => exact HC3.out); (case side5 => repeat ((exact (Kd.C_below HR1.out HB.out)))); (case side6 => exact HC1.out); rintro e w10 ⟨v674, rfl, ho0, hb⟩; refine ⟨_, rfl, ?_⟩; have n0_ := Aside0.mk (Kd.R_lower ho0 (below_size HB.out)); have n1_ := Aside0.mk (blk_below (g := gb672) (o := .cells #[.int .i64 a0_0, .int .i64 a0_1, .slice A0_2 l0_2.length c0_2] 24 (0, 0)) BK672.out hb); have n2_ := Aside0.mk (below_step HB.out hb); clear BK672; clear HB; have HO675 := n0_; have BK672 := n1_; have HB := n2_; clear n0_ n1_ n2_; ((clear hb)); (skip); (skip); (skip); ((clear ho0)); obtain ⟨Ao11, co11, eo11⟩ := Kd.R_slice HO675.out; subst eo11))
 go_loopg [13] k (fun kq v13 w' => ∃ (x13_1 : Int), v13 = .int .i64 x13_1 ∧ Aside0 (codewrightref38_Holds.l0 kq a2 l4 t673 ji7 x13_1 a0_0 a0_1 l0_2 = some r) ∧ Aside0 (kq ≤ k) ∧ Aside0 (Kd.R (Kd.int .i64) 3 w' w.heap.size (fun _ => True) (.slice Ao11 t673.length co11) t673) ∧ Aside0 (w'.heap[gb672]? = some (.cells #[.int .i64 a0_0, .int .i64 a0_1, (.slice A0_2 l0_2.length c0_2)] 24 (0, 0))) ∧ Aside0 (Below w.heap.size w w'))
 case atStart => exact ⟨(0), (by rfl), H', ⟨Nat.le_refl _⟩, ⟨HO675.out⟩, ⟨BK672.out⟩, ⟨HB.out⟩⟩
 case round =>
  clear H' hcz9_0 hcz9_1 hcz9_2 hfz9_0 hfz9_1 hfz9_2
  obtain ⟨x13_1, rfl, HA, HK1, HO_11, BK672, HB⟩ := hrel
  cases gk with
  | zero => exact absurd HA.out (by simp [codewrightref38_Holds.l0])
  | succ k1 =>
   have H := HA.out
   clear HA
   simp only [codewrightref38_Holds.l0] at H
   have HC12 := Aside0.mk H
   clear H
   go_upto_region 4 with (fail)
   go_cut [30] (fun v30 wc => ∃ (kq : Nat) (x30_11 : Bool), v30 = .bool x30_11 ∧ Aside0 (codewrightref38_Holds.j1 kq a2 l4 t673 ji7 x13_1 x30_11 a0_0 a0_1 l0_2 = some r) ∧ Aside0 (kq ≤ k1) ∧ Aside0 (Kd.R (Kd.int .i64) 3 wc w.heap.size (fun _ => True) (.slice Ao11 t673.length co11) t673) ∧ Aside0 (wc.heap[gb672]? = some (.cells #[.int .i64 a0_0, .int .i64 a0_1, (.slice A0_2 l0_2.length c0_2)] 24 (0, 0))) ∧ Aside0 (Below w.heap.size w wc))
   case first =>
    have H := HC12.out
    clear HC12
    by_cases c13 : x13_1 < a2
    ·rw [if_pos c13] at H
     have c13b0 : decide (x13_1 < a2) = true := decide_eq_true c13
     clear c13
     ((skip))
     have H' := Aside0.mk H
     clear H
     go_wp2
     go_meet
     case rel => exact ⟨_, (decide (x13_1 < ji7)), (by rfl), H', ⟨by have := HK1.out; (omega)⟩, ⟨HO_11.out⟩, ⟨BK672.out⟩, ⟨HB.out⟩⟩
    ·rw [if_neg c13] at H
     have c13b0 : decide (x13_1 < a2) = false := decide_eq_false c13
     clear c13
     ((skip))
     have H' := Aside0.mk H
     clear H
     go_wp2
     go_meet
     case rel => exact ⟨_, (false), (by rfl), H', ⟨by have := HK1.out; (omega)⟩, ⟨HO_11.out⟩, ⟨BK672.out⟩, ⟨HB.out⟩⟩
   case rest =>
    clear HC12
    obtain ⟨kq, x30_11, rfl, HA, HJ11, HO_11, BK672, HB⟩ := hcut
    cases kq with
    | zero => exact absurd HA.out (by simp [codewrightref38_Holds.j1])
    | succ kj11 =>
     have H := HA.out
     clear HA
     simp only [codewrightref38_Holds.j1] at H
     by_cases c14 : x30_11 = true
     ·subst c14
      have H1 : ((codewrightref05_At.f kj11 a0_0 a0_1 l0_2 t673 x13_1).bind fun t676 => ((codewrightref05_At.f kj11 a0_0 a0_1 l0_2 l4 x13_1).bind fun t677 => (if t676 = t677 then (codewrightref38_Holds.l0 kj11 a2 l4 t673 ji7 (wrap64 (x13_1 + 1)) a0_0 a0_1 l0_2) else (some false)))) = some r := by rw [if_pos rfl] at H; exact H
      clear H
      have H := H1
      clear H1
      obtain ⟨t676, A150, H⟩ := Option.bind_eq_some_iff.mp H
      replace H : ((codewrightref05_At.f kj11 a0_0 a0_1 l0_2 l4 x13_1).bind fun t677 => (if t676 = t677 then (codewrightref38_Holds.l0 kj11 a2 l4 t673 ji7 (wrap64 (x13_1 + 1)) a0_0 a0_1 l0_2) else (some false))) = some r := H
      have A15 := Aside0.mk A150
      clear A150
      obtain ⟨t677, A160, H⟩ := Option.bind_eq_some_iff.mp H
      replace H : (if t676 = t677 then (codewrightref38_Holds.l0 kj11 a2 l4 t673 ji7 (wrap64 (x13_1 + 1)) a0_0 a0_1 l0_2) else (some false)) = some r := H
      have A16 := Aside0.mk A160
      clear A160
      by_cases c17 : t676 = t677
      ·rw [if_pos c17] at H
       have c17b0 : (t676 == t677) = true := beq_iff_eq.mpr c17
       have c17b1 : (t676 != t677) = false := bne_eq_false_iff_eq.mpr c17
       clear c17
       have H' := Aside0.mk H
       clear H
       (go_wp2)
       have n0_ := Aside0.mk (Kd.R_drew HO_11.out)
       have n1_ := Aside0.mk (blk_drew BK672.out)
       have n2_ := Aside0.mk (below_drew1 HB.out)
       clear HO_11 BK672 HB
       have HO_11 := n0_
       have BK672 := n1_
       have HB := n2_
       clear n0_ n1_ n2_
       refine start_ (n := 9) (S := fun w' => w'.cell? ⟨gb672, 0, none⟩ = some (.int .i64 a0_0) ∧ w'.cell? ⟨gb672, 1, none⟩ = some (.int .i64 a0_1) ∧ w'.cell? ⟨gb672, 2, none⟩ = some (.slice A0_2 l0_2.length c0_2)) (ds := []) (bm 9 0) (by kernel_rfl) rfl rfl ⟨(blk_cell BK672.out 0).trans rfl, (blk_cell BK672.out 1).trans rfl, (blk_cell BK672.out 2).trans rfl⟩ (fun hHeld => ?_); refine with_tabW codewrightref38_Holds.tab6 codewrightref38_Holds.bits6 (fun HT_ HW_ => ?_)
       generalize wc.drew = w18 at HO_11 BK672 HB hHeld ⊢
       refine pure_ (i := 1) (N := some 34) (v := ?_) (a' := ?_) (bm 9 2) rfl rfl (any_of HT_.out (by kernel_rfl)) (fun _ _ _ h => h) (Or.inl ⟨by rfl, ?_⟩) ?_ ?_;rotate_left;(intro w';go_simp;with_reducible rfl);rotate_left;(simp only [ps_];rfl)
       refine pure_ (i := 2) (N := some 35) (v := ?_) (a' := ?_) (bm 9 6) rfl rfl (any_of HT_.out (by kernel_rfl)) (fun _ _ _ h => h) (Or.inl ⟨by rfl, ?_⟩) ?_ ?_;rotate_left;(intro w';go_simp;with_reducible rfl);rotate_left;(simp only [ps_];rfl)
       refine pure_ (i := 5) (N := some 38) (v := ?_) (a' := ?_) (bm 9 38) rfl rfl (any_of HT_.out (by kernel_rfl)) (fun _ _ _ h => h) (Or.inl ⟨by rfl, ?_⟩) ?_ ?_;rotate_left;(intro w';go_simp;with_reducible rfl);rotate_left;(simp only [ps_];rfl)
       refine pure_ (i := 6) (N := some 39) (v := ?_) (a' := ?_) (bm 9 102) rfl rfl (any_of HT_.out (by kernel_rfl)) (fun _ _ _ h => h) (Or.inl ⟨by rfl, ?_⟩) ?_ ?_;rotate_left;(intro w';go_simp;with_reducible rfl);rotate_left;(simp only [ps_];rfl)
       refine take_ (i := 0) (N := some 33) (v := ?_) (a' := ?_) (bm 9 103) rfl rfl (take_ofW HT_.out HW_.out (by kernel_rfl)) (fun _ _ _ h => h) (Or.inl ⟨by rfl, ?_⟩) hHeld ?_ ?_;rotate_left;(rintro w' ⟨s0, s1, s2⟩;go_simp;with_reducible rfl);rotate_left;(simp only [ps_];rfl)
       refine take_ (i := 4) (N := some 37) (v := ?_) (a' := ?_) (bm 9 119) rfl rfl (take_ofW HT_.out HW_.out (by kernel_rfl)) (fun _ _ _ h => h) (Or.inl ⟨by rfl, ?_⟩) hHeld ?_ ?_;rotate_left;(rintro w' ⟨s0, s1, s2⟩;go_simp;with_reducible rfl);rotate_left;(simp only [ps_];rfl)
       refine one_ (i := 3) (N := some 36) (bm 9 127) rfl rfl (one_of HT_.out (by kernel_rfl)) (by decide) (fun K hK => ?_)
       refine goes_ Try.func56 (by kernel_rfl) rfl #[.agg #[.int .i64 a0_0, .int .i64 a0_1, .slice A0_2 l0_2.length c0_2], .slice Ao11 t673.length co11, .int .i64 x13_1] (by rfl) rfl rfl (by ((simp only [List.map_toArray, List.map_cons, List.map_nil])); (rfl)) ?_
       with_reducible refine (codewrightref05_At.calls kj11 a0_0 a0_1 _ _ l0_2 _ _ t673 x13_1 t676 _ ?side1 ?side2 ?side3 ?side4 A15.out).mono ?_
       (case side1 => repeat ((exact (Kd.C_below HR0_2.out HB.out))))
       (case side2 => exact HC0_2.out)
       (case side3 => repeat ((exact (Kd.R_reads' HO_11.out).2.2)))
       (case side4 => exact (Kd.R_reads' HO_11.out).2.1)
       rintro e w19 ⟨rfl, hb⟩
       refine ⟨_, rfl, ?_⟩
       have n0_ := Aside0.mk (Kd.R_below HO_11.out hb)
       have n1_ := Aside0.mk (blk_below (g := gb672) (o := .cells #[.int .i64 a0_0, .int .i64 a0_1, .slice A0_2 l0_2.length c0_2] 24 (0, 0)) BK672.out hb)
       have n2_ := Aside0.mk (below_step HB.out hb)
       clear HO_11 BK672 HB
       have HO_11 := n0_
       have BK672 := n1_
       have HB := n2_
       clear n0_ n1_ n2_
       ((clear hb))
       refine hK.out _ _ ⟨(blk_cell BK672.out 0).trans rfl, (blk_cell BK672.out 1).trans rfl, (blk_cell BK672.out 2).trans rfl⟩ (fun hHeld => ?_)
       clear hK K
       refine norm_ (a' := ?_) ?_ ?_
       rotate_left
       ·show Act.put _ (some 36) _ = _
        simp only [Act.put, List.setIfInBounds_toArray, List.set_cons_zero, List.set_cons_succ, i64_w, i32_w]
        rfl
       refine one_ (i := 7) (N := some 40) (bm 9 255) rfl rfl (one_of HT_.out (by kernel_rfl)) (by decide) (fun K hK => ?_)
       refine goes_ Try.func56 (by kernel_rfl) rfl #[.agg #[.int .i64 a0_0, .int .i64 a0_1, .slice A0_2 l0_2.length c0_2], .slice A4 l4.length c4, .int .i64 x13_1] (by rfl) rfl rfl (by ((simp only [List.map_toArray, List.map_cons, List.map_nil])); (rfl)) ?_
       with_reducible refine (codewrightref05_At.calls kj11 a0_0 a0_1 _ _ l0_2 _ _ l4 x13_1 t677 _ ?side1 ?side2 ?side3 ?side4 A16.out).mono ?_
       (case side1 => repeat ((exact (Kd.C_below HR0_2.out HB.out))))
       (case side2 => exact HC0_2.out)
       (case side3 => repeat ((exact (Kd.C_below HR4.out HB.out))))
       (case side4 => exact HC4.out)
       rintro e w20 ⟨rfl, hb⟩
       refine ⟨_, rfl, ?_⟩
       have n0_ := Aside0.mk (Kd.R_below HO_11.out hb)
       have n1_ := Aside0.mk (blk_below (g := gb672) (o := .cells #[.int .i64 a0_0, .int .i64 a0_1, .slice A0_2 l0_2.length c0_2] 24 (0, 0)) BK672.out hb)
       have n2_ := Aside0.mk (below_step HB.out hb)
       clear HO_11 BK672 HB
       have HO_11 := n0_
       have BK672 := n1_
       have HB := n2_
       clear n0_ n1_ n2_
       ((clear hb))
       refine hK.out _ _ ⟨(blk_cell BK672.out 0).trans rfl, (blk_cell BK672.out 1).trans rfl, (blk_cell BK672.out 2).trans rfl⟩ (fun hHeld => ?_)
       clear hK K
       refine norm_ (a' := ?_) ?_ ?_
       rotate_left
       ·show Act.put _ (some 40) _ = _
        simp only [Act.put, List.setIfInBounds_toArray, List.set_cons_zero, List.set_cons_succ, i64_w, i32_w]
        rfl
       refine pure_ (i := 8) (N := some 41) (v := ?_) (a' := ?_) (bm 9 511) rfl rfl (any_of HT_.out (by kernel_rfl)) (fun _ _ _ h => h) (Or.inl ⟨by rfl, ?_⟩) ?_ ?_;rotate_left;(intro w';go_simp;with_reducible rfl);rotate_left;(simp only [ps_];rfl)
       refine done_ (done_of HT_.out (by kernel_rfl)) ?_
       (go_wp2)
       go_roundg kj11
       case measure => have := HK1.out; have := HJ11.out; omega
       case rel => exact ⟨(wrap64 (x13_1 + 1)), (by rfl), H', ⟨by have := HK1.out; have := HJ11.out; omega⟩, ⟨HO_11.out⟩, ⟨BK672.out⟩, ⟨HB.out⟩⟩
      ·rw [if_neg c17] at H
       have c17b0 : (t676 == t677) = false := beq_eq_false_iff_ne.mpr c17
       have c17b1 : (t676 != t677) = true := bne_iff_ne.mpr c17
       obtain rfl := Option.some.inj H
       (go_wp2)
       have n0_ := Aside0.mk (Kd.R_drew HO_11.out)
       have n1_ := Aside0.mk (blk_drew BK672.out)
       have n2_ := Aside0.mk (below_drew1 HB.out)
       clear HO_11 BK672 HB
       have HO_11 := n0_
       have BK672 := n1_
       have HB := n2_
       clear n0_ n1_ n2_
       refine start_ (n := 9) (S := fun w' => w'.cell? ⟨gb672, 0, none⟩ = some (.int .i64 a0_0) ∧ w'.cell? ⟨gb672, 1, none⟩ = some (.int .i64 a0_1) ∧ w'.cell? ⟨gb672, 2, none⟩ = some (.slice A0_2 l0_2.length c0_2)) (ds := []) (bm 9 0) (by kernel_rfl) rfl rfl ⟨(blk_cell BK672.out 0).trans rfl, (blk_cell BK672.out 1).trans rfl, (blk_cell BK672.out 2).trans rfl⟩ (fun hHeld => ?_); refine with_tabW codewrightref38_Holds.tab6 codewrightref38_Holds.bits6 (fun HT_ HW_ => ?_)
       generalize wc.drew = w21 at HO_11 BK672 HB hHeld ⊢
       refine pure_ (i := 1) (N := some 34) (v := ?_) (a' := ?_) (bm 9 2) rfl rfl (any_of HT_.out (by kernel_rfl)) (fun _ _ _ h => h) (Or.inl ⟨by rfl, ?_⟩) ?_ ?_;rotate_left;(intro w';go_simp;with_reducible rfl);rotate_left;(simp only [ps_];rfl)
       refine pure_ (i := 2) (N := some 35) (v := ?_) (a' := ?_) (bm 9 6) rfl rfl (any_of HT_.out (by kernel_rfl)) (fun _ _ _ h => h) (Or.inl ⟨by rfl, ?_⟩) ?_ ?_;rotate_left;(intro w';go_simp;with_reducible rfl);rotate_left;(simp only [ps_];rfl)
       refine pure_ (i := 5) (N := some 38) (v := ?_) (a' := ?_) (bm 9 38) rfl rfl (any_of HT_.out (by kernel_rfl)) (fun _ _ _ h => h) (Or.inl ⟨by rfl, ?_⟩) ?_ ?_;rotate_left;(intro w';go_simp;with_reducible rfl);rotate_left;(simp only [ps_];rfl)
       refine pure_ (i := 6) (N := some 39) (v := ?_) (a' := ?_) (bm 9 102) rfl rfl (any_of HT_.out (by kernel_rfl)) (fun _ _ _ h => h) (Or.inl ⟨by rfl, ?_⟩) ?_ ?_;rotate_left;(intro w';go_simp;with_reducible rfl);rotate_left;(simp only [ps_];rfl)
       refine take_ (i := 0) (N := some 33) (v := ?_) (a' := ?_) (bm 9 103) rfl rfl (take_ofW HT_.out HW_.out (by kernel_rfl)) (fun _ _ _ h => h) (Or.inl ⟨by rfl, ?_⟩) hHeld ?_ ?_;rotate_left;(rintro w' ⟨s0, s1, s2⟩;go_simp;with_reducible rfl);rotate_left;(simp only [ps_];rfl)
       refine take_ (i := 4) (N := some 37) (v := ?_) (a' := ?_) (bm 9 119) rfl rfl (take_ofW HT_.out HW_.out (by kernel_rfl)) (fun _ _ _ h => h) (Or.inl ⟨by rfl, ?_⟩) hHeld ?_ ?_;rotate_left;(rintro w' ⟨s0, s1, s2⟩;go_simp;with_reducible rfl);rotate_left;(simp only [ps_];rfl)
       refine one_ (i := 3) (N := some 36) (bm 9 127) rfl rfl (one_of HT_.out (by kernel_rfl)) (by decide) (fun K hK => ?_)
       refine goes_ Try.func56 (by kernel_rfl) rfl #[.agg #[.int .i64 a0_0, .int .i64 a0_1, .slice A0_2 l0_2.length c0_2], .slice Ao11 t673.length co11, .int .i64 x13_1] (by rfl) rfl rfl (by ((simp only [List.map_toArray, List.map_cons, List.map_nil])); (rfl)) ?_
       with_reducible refine (codewrightref05_At.calls kj11 a0_0 a0_1 _ _ l0_2 _ _ t673 x13_1 t676 _ ?side1 ?side2 ?side3 ?side4 A15.out).mono ?_
       (case side1 => repeat ((exact (Kd.C_below HR0_2.out HB.out))))
       (case side2 => exact HC0_2.out)
       (case side3 => repeat ((exact (Kd.R_reads' HO_11.out).2.2)))
       (case side4 => exact (Kd.R_reads' HO_11.out).2.1)
       rintro e w22 ⟨rfl, hb⟩
       refine ⟨_, rfl, ?_⟩
       have n0_ := Aside0.mk (Kd.R_below HO_11.out hb)
       have n1_ := Aside0.mk (blk_below (g := gb672) (o := .cells #[.int .i64 a0_0, .int .i64 a0_1, .slice A0_2 l0_2.length c0_2] 24 (0, 0)) BK672.out hb)
       have n2_ := Aside0.mk (below_step HB.out hb)
       clear HO_11 BK672 HB
       have HO_11 := n0_
       have BK672 := n1_
       have HB := n2_
       clear n0_ n1_ n2_
       ((clear hb))
       refine hK.out _ _ ⟨(blk_cell BK672.out 0).trans rfl, (blk_cell BK672.out 1).trans rfl, (blk_cell BK672.out 2).trans rfl⟩ (fun hHeld => ?_)
       clear hK K
       refine norm_ (a' := ?_) ?_ ?_
       rotate_left
       ·show Act.put _ (some 36) _ = _
        simp only [Act.put, List.setIfInBounds_toArray, List.set_cons_zero, List.set_cons_succ, i64_w, i32_w]
        rfl
       refine one_ (i := 7) (N := some 40) (bm 9 255) rfl rfl (one_of HT_.out (by kernel_rfl)) (by decide) (fun K hK => ?_)
       refine goes_ Try.func56 (by kernel_rfl) rfl #[.agg #[.int .i64 a0_0, .int .i64 a0_1, .slice A0_2 l0_2.length c0_2], .slice A4 l4.length c4, .int .i64 x13_1] (by rfl) rfl rfl (by ((simp only [List.map_toArray, List.map_cons, List.map_nil])); (rfl)) ?_
       with_reducible refine (codewrightref05_At.calls kj11 a0_0 a0_1 _ _ l0_2 _ _ l4 x13_1 t677 _ ?side1 ?side2 ?side3 ?side4 A16.out).mono ?_
       (case side1 => repeat ((exact (Kd.C_below HR0_2.out HB.out))))
       (case side2 => exact HC0_2.out)
       (case side3 => repeat ((exact (Kd.C_below HR4.out HB.out))))
       (case side4 => exact HC4.out)
       rintro e w23 ⟨rfl, hb⟩
       refine ⟨_, rfl, ?_⟩
       have n0_ := Aside0.mk (Kd.R_below HO_11.out hb)
       have n1_ := Aside0.mk (blk_below (g := gb672) (o := .cells #[.int .i64 a0_0, .int .i64 a0_1, .slice A0_2 l0_2.length c0_2] 24 (0, 0)) BK672.out hb)
       have n2_ := Aside0.mk (below_step HB.out hb)
       clear HO_11 BK672 HB
       have HO_11 := n0_
       have BK672 := n1_
       have HB := n2_
       clear n0_ n1_ n2_
       ((clear hb))
       refine hK.out _ _ ⟨(blk_cell BK672.out 0).trans rfl, (blk_cell BK672.out 1).trans rfl, (blk_cell BK672.out 2).trans rfl⟩ (fun hHeld => ?_)
       clear hK K
       refine norm_ (a' := ?_) ?_ ?_
       rotate_left
       ·show Act.put _ (some 40) _ = _
        simp only [Act.put, List.setIfInBounds_toArray, List.set_cons_zero, List.set_cons_succ, i64_w, i32_w]
        rfl
       refine pure_ (i := 8) (N := some 41) (v := ?_) (a' := ?_) (bm 9 511) rfl rfl (any_of HT_.out (by kernel_rfl)) (fun _ _ _ h => h) (Or.inl ⟨by rfl, ?_⟩) ?_ ?_;rotate_left;(intro w';go_simp;with_reducible rfl);rotate_left;(simp only [ps_];rfl)
       refine done_ (done_of HT_.out (by kernel_rfl)) ?_
       (go_wp2)
       go_ret
       exact ⟨by rfl, by exact HB.out⟩
     ·replace c14 := Bool.eq_false_iff.mpr c14
      subst c14
      have H1 : (some true) = some r := by rw [if_neg (show ¬ (false = true) by decide)] at H; exact H
      clear H
      have H := H1
      clear H1
      obtain rfl := Option.some.inj H
      go_wp2
      go_ret
      exact ⟨by rfl, by exact HB.out⟩
def codewrightref38_Pair.f (k : Nat) (a0_0 : Int) (a0_1 : Int) (l0_2 : List Int) (l1 : List Int) (a2 : Int) (a3 : Int) (l4 : List Int) (l5 : List Int) : Option (Bool) := (codewrightref38_Holds.f k a0_0 a0_1 l0_2 l1 a2 l4 l5).bind fun t679 => (if t679 = true then ((codewrightref05_Degree.f k a0_0 a0_1 l0_2 l4).bind fun t680 => (if (wrap64 (2 * t680)) ≤ (wrap64 (a2 - a3)) then ((codewrightref05_Degree.f k a0_0 a0_1 l0_2 l5).bind fun t681 => (if (wrap64 (2 * t681)) < (wrap64 (a2 + a3)) then ((codewrightref05_At.f k a0_0 a0_1 l0_2 l4 0).bind fun t682 => (some (t682 == 1))) else (some false))) else (some false))) else (some false))
set_option maxHeartbeats 8000000 in
set_option maxRecDepth 100000 in
theorem codewrightref38_Pair.calls (k : Nat) (a0_0 : Int) (a0_1 : Int) (A0_2 : Option Addr) (c0_2 : Nat) (l0_2 : List Int) (A1 : Option Addr) (c1 : Nat) (l1 : List Int) (a2 : Int) (a3 : Int) (A4 : Option Addr) (c4 : Nat) (l4 : List Int) (A5 : Option Addr) (c5 : Nat) (l5 : List Int) (r : Bool) (w : World) (hr0_2 : Kd.C (Kd.int .i64) w A0_2 l0_2.length l0_2) (hc0_2 : l0_2.length ≤ c0_2) (hr1 : Kd.C (Kd.int .i64) w A1 l1.length l1) (hc1 : l1.length ≤ c1) (hr4 : Kd.C (Kd.int .i64) w A4 l4.length l4) (hc4 : l4.length ≤ c4) (hr5 : Kd.C (Kd.int .i64) w A5 l5.length l5) (hc5 : l5.length ≤ c5) (h : codewrightref38_Pair.f k a0_0 a0_1 l0_2 l1 a2 a3 l4 l5 = some r) :
  Calls Try.prog 26 #[.agg #[.int .i64 a0_0, .int .i64 a0_1, .slice A0_2 l0_2.length c0_2], .slice A1 l1.length c1, .int .i64 a2, .int .i64 a3, .slice A4 l4.length c4, .slice A5 l5.length c5] w fun e w' => e = .returned (.bool r) ∧ Below w.heap.size w w' := by
 have hu24 := Try.underlying24
 have HR0_2 := Aside0.mk hr0_2
 have HC0_2 := Aside0.mk hc0_2
 clear hr0_2 hc0_2
 have HR1 := Aside0.mk hr1
 have HC1 := Aside0.mk hc1
 clear hr1 hc1
 have HR4 := Aside0.mk hr4
 have HC4 := Aside0.mk hc4
 clear hr4 hc4
 have HR5 := Aside0.mk hr5
 have HC5 := Aside0.mk hc5
 clear hr5 hc5
 have HB := Aside0.mk (Below.refl w.heap.size w)
 have H : ((codewrightref38_Holds.f k a0_0 a0_1 l0_2 l1 a2 l4 l5).bind fun t679 => (if t679 = true then ((codewrightref05_Degree.f k a0_0 a0_1 l0_2 l4).bind fun t680 => (if (wrap64 (2 * t680)) ≤ (wrap64 (a2 - a3)) then ((codewrightref05_Degree.f k a0_0 a0_1 l0_2 l5).bind fun t681 => (if (wrap64 (2 * t681)) < (wrap64 (a2 + a3)) then ((codewrightref05_At.f k a0_0 a0_1 l0_2 l4 0).bind fun t682 => (some (t682 == 1))) else (some false))) else (some false))) else (some false))) = some r := h
 clear h
 obtain ⟨t679, A70, H⟩ := Option.bind_eq_some_iff.mp H
 replace H : (if t679 = true then ((codewrightref05_Degree.f k a0_0 a0_1 l0_2 l4).bind fun t680 => (if (wrap64 (2 * t680)) ≤ (wrap64 (a2 - a3)) then ((codewrightref05_Degree.f k a0_0 a0_1 l0_2 l5).bind fun t681 => (if (wrap64 (2 * t681)) < (wrap64 (a2 + a3)) then ((codewrightref05_At.f k a0_0 a0_1 l0_2 l4 0).bind fun t682 => (some (t682 == 1))) else (some false))) else (some false))) else (some false)) = some r := H
 have A7 := Aside0.mk A70
 clear A70
 by_cases c8 : t679 = true
 ·subst c8
  have H1 : ((codewrightref05_Degree.f k a0_0 a0_1 l0_2 l4).bind fun t680 => (if (wrap64 (2 * t680)) ≤ (wrap64 (a2 - a3)) then ((codewrightref05_Degree.f k a0_0 a0_1 l0_2 l5).bind fun t681 => (if (wrap64 (2 * t681)) < (wrap64 (a2 + a3)) then ((codewrightref05_At.f k a0_0 a0_1 l0_2 l4 0).bind fun t682 => (some (t682 == 1))) else (some false))) else (some false))) = some r := by rw [if_pos rfl] at H; exact H
  clear H
  have H := H1
  clear H1
  obtain ⟨t680, A90, H⟩ := Option.bind_eq_some_iff.mp H
  replace H : (if (wrap64 (2 * t680)) ≤ (wrap64 (a2 - a3)) then ((codewrightref05_Degree.f k a0_0 a0_1 l0_2 l5).bind fun t681 => (if (wrap64 (2 * t681)) < (wrap64 (a2 + a3)) then ((codewrightref05_At.f k a0_0 a0_1 l0_2 l4 0).bind fun t682 => (some (t682 == 1))) else (some false))) else (some false)) = some r := H
  have A9 := Aside0.mk A90
  clear A90
  by_cases c10 : (wrap64 (2 * t680)) ≤ (wrap64 (a2 - a3))
  ·rw [if_pos c10] at H
   have c10b0 : decide ((wrap64 (2 * t680)) ≤ (wrap64 (a2 - a3))) = true := decide_eq_true c10
   clear c10
   obtain ⟨t681, A110, H⟩ := Option.bind_eq_some_iff.mp H
   replace H : (if (wrap64 (2 * t681)) < (wrap64 (a2 + a3)) then ((codewrightref05_At.f k a0_0 a0_1 l0_2 l4 0).bind fun t682 => (some (t682 == 1))) else (some false)) = some r := H
   have A11 := Aside0.mk A110
   clear A110
   by_cases c12 : (wrap64 (2 * t681)) < (wrap64 (a2 + a3))
   ·rw [if_pos c12] at H
    have c12b0 : decide ((wrap64 (2 * t681)) < (wrap64 (a2 + a3))) = true := decide_eq_true c12
    clear c12
    obtain ⟨t682, A130, H⟩ := Option.bind_eq_some_iff.mp H
    replace H : (some (t682 == 1)) = some r := H
    have A13 := Aside0.mk A130
    clear A130
    obtain rfl := Option.some.inj H
    go_enter Try.func26, Try.ntmps26
    go_wp2_with (first | ((with_reducible refine gate_dst (N := 6) rfl ?_); refine box_event ?hg (N := 6) ?hd (cs := #[.int .i64 a0_0, .int .i64 a0_1, .slice A0_2 l0_2.length c0_2]) (t := 24) ?hr ?_; (case hd => rfl); (case hg => rfl); (case hr => (go_simp; done)); intro gb678 hg w14 hbox hb; have n0_ := Aside0.mk (below_step HB.out hb); have n1_ := Aside0.mk (hbox); have n2_ := Aside0.mk ((by rw [hg]; exact (below_size HB.out) : w.heap.size ≤ gb678)); have n3_ := Aside0.mk ((by rw [hg]; exact (below_size HB.out) : w.heap.size ≤ gb678)); clear HB; have HB := n0_; have BK678 := n1_; have GW678 := n2_; have GE678 := n3_; clear n0_ n1_ n2_ n3_; clear hb hbox hg; have hcz15_0 : w14.cell? ⟨gb678, 0, none⟩ = some (.int .i64 a0_0) := (blk_cell BK678.out 0).trans rfl; have hcz15_1 : w14.cell? ⟨gb678, 1, none⟩ = some (.int .i64 a0_1) := (blk_cell BK678.out 1).trans rfl; have hcz15_2 : w14.cell? ⟨gb678, 2, none⟩ = some (.slice A0_2 l0_2.length c0_2) := (blk_cell BK678.out 2).trans rfl; have hfz15_0 := blk_frozen BK678.out 0; have hfz15_1 := blk_frozen BK678.out 1; have hfz15_2 := blk_frozen BK678.out 2) | ((with_reducible refine gate_callee (f := 36) rfl ?_); refine goesL_ (some 18) rfl rfl Try.func36 (by kernel_rfl) rfl #[.agg #[.int .i64 a0_0, .int .i64 a0_1, .slice A0_2 l0_2.length c0_2], .slice A1 l1.length c1, .int .i64 a2, .slice A4 l4.length c4, .slice A5 l5.length c5] rfl (by ((simp only [List.map_toArray, List.map_cons, List.map_nil])); (rfl)) ?_; (with_reducible refine (codewrightref38_Holds.calls k a0_0 a0_1 _ _ l0_2 _ _ l1 a2 _ _ l4 _ _ l5 true _ ?side1 ?side2 ?side3 ?side4 ?side5 ?side6 ?side7 ?side8 A7.out).mono ?_); (case side1 => repeat ((exact (Kd.C_below HR0_2.out HB.out)))); (case side2 => exact HC0_2.out); (case side3 => repeat ((exact (Kd.C_below HR1.out HB.out)))); (case side4 => exact HC1.out); (case side5 => repeat ((exact (Kd.C_below HR4.out HB.out)))); (case side6 => exact HC4.out); (case side7 => repeat ((exact (Kd.C_below HR5.out HB.out)))); (case side8 => exact HC5.out); rintro e w16 ⟨rfl, hb⟩; refine ⟨_, rfl, ?_⟩; have n0_ := Aside0.mk (blk_below (g := gb678) (o := .cells #[.int .i64 a0_0, .int .i64 a0_1, .slice A0_2 l0_2.length c0_2] 24 (0, 0)) BK678.out hb); have n1_ := Aside0.mk (below_step HB.out hb); clear BK678; clear HB; have BK678 := n0_; have HB := n1_; clear n0_ n1_; ((clear hb)); (skip); (skip); (skip); have hcz17_0 : w16.cell? ⟨gb678, 0, none⟩ = some (.int .i64 a0_0) := (blk_cell BK678.out 0).trans rfl; have hcz17_1 : w16.cell? ⟨gb678, 1, none⟩ = some (.int .i64 a0_1) := (blk_cell BK678.out 1).trans rfl; have hcz17_2 : w16.cell? ⟨gb678, 2, none⟩ = some (.slice A0_2 l0_2.length c0_2) := (blk_cell BK678.out 2).trans rfl; have hfz17_0 := blk_frozen BK678.out 0; have hfz17_1 := blk_frozen BK678.out 1; have hfz17_2 := blk_frozen BK678.out 2) | (go_at_call 20; (with_reducible refine (codewrightref05_Degree.calls k a0_0 a0_1 _ _ l0_2 _ _ l4 t680 _ ?side1 ?side2 ?side3 ?side4 A9.out).mono ?_); (case side1 => repeat ((exact (Kd.C_below HR0_2.out HB.out)))); (case side2 => exact HC0_2.out); (case side3 => repeat ((exact (Kd.C_below HR4.out HB.out)))); (case side4 => exact HC4.out); rintro e w18 ⟨rfl, hb⟩; have n0_ := Aside0.mk (blk_below (g := gb678) (o := .cells #[.int .i64 a0_0, .int .i64 a0_1, .slice A0_2 l0_2.length c0_2] 24 (0, 0)) BK678.out hb); have n1_ := Aside0.mk (below_step HB.out hb); clear BK678; clear HB; have BK678 := n0_; have HB := n1_; clear n0_ n1_; ((clear hb)); (skip); (skip); (skip); have hcz19_0 : w18.cell? ⟨gb678, 0, none⟩ = some (.int .i64 a0_0) := (blk_cell BK678.out 0).trans rfl; have hcz19_1 : w18.cell? ⟨gb678, 1, none⟩ = some (.int .i64 a0_1) := (blk_cell BK678.out 1).trans rfl; have hcz19_2 : w18.cell? ⟨gb678, 2, none⟩ = some (.slice A0_2 l0_2.length c0_2) := (blk_cell BK678.out 2).trans rfl; have hfz19_0 := blk_frozen BK678.out 0; have hfz19_1 := blk_frozen BK678.out 1; have hfz19_2 := blk_frozen BK678.out 2) | (go_at_call 20; (with_reducible refine (codewrightref05_Degree.calls k a0_0 a0_1 _ _ l0_2 _ _ l5 t681 _ ?side1 ?side2 ?side3 ?side4 A11.out).mono ?_); (case side1 => repeat ((exact (Kd.C_below HR0_2.out HB.out)))); (case side2 => exact HC0_2.out); (case side3 => repeat ((exact (Kd.C_below HR5.out HB.out)))); (case side4 => exact HC5.out); rintro e w20 ⟨rfl, hb⟩; have n0_ := Aside0.mk (blk_below (g := gb678) (o := .cells #[.int .i64 a0_0, .int .i64 a0_1, .slice A0_2 l0_2.length c0_2] 24 (0, 0)) BK678.out hb); have n1_ := Aside0.mk (below_step HB.out hb); clear BK678; clear HB; have BK678 := n0_; have HB := n1_; clear n0_ n1_; ((clear hb)); (skip); (skip); (skip); have hcz21_0 : w20.cell? ⟨gb678, 0, none⟩ = some (.int .i64 a0_0) := (blk_cell BK678.out 0).trans rfl; have hcz21_1 : w20.cell? ⟨gb678, 1, none⟩ = some (.int .i64 a0_1) := (blk_cell BK678.out 1).trans rfl; have hcz21_2 : w20.cell? ⟨gb678, 2, none⟩ = some (.slice A0_2 l0_2.length c0_2) := (blk_cell BK678.out 2).trans rfl; have hfz21_0 := blk_frozen BK678.out 0; have hfz21_1 := blk_frozen BK678.out 1; have hfz21_2 := blk_frozen BK678.out 2) | (go_at_call 56; (with_reducible refine (codewrightref05_At.calls k a0_0 a0_1 _ _ l0_2 _ _ l4 0 t682 _ ?side1 ?side2 ?side3 ?side4 A13.out).mono ?_); (case side1 => repeat ((exact (Kd.C_below HR0_2.out HB.out)))); (case side2 => exact HC0_2.out); (case side3 => repeat ((exact (Kd.C_below HR4.out HB.out)))); (case side4 => exact HC4.out); rintro e w22 ⟨rfl, hb⟩; have n0_ := Aside0.mk (blk_below (g := gb678) (o := .cells #[.int .i64 a0_0, .int .i64 a0_1, .slice A0_2 l0_2.length c0_2] 24 (0, 0)) BK678.out hb); have n1_ := Aside0.mk (below_step HB.out hb); clear BK678; clear HB; have BK678 := n0_; have HB := n1_; clear n0_ n1_; ((clear hb)); (skip); (skip); (skip)))
    go_ret
    exact ⟨by rfl, by exact HB.out⟩
   ·rw [if_neg c12] at H
    have c12b0 : decide ((wrap64 (2 * t681)) < (wrap64 (a2 + a3))) = false := decide_eq_false c12
    clear c12
    obtain rfl := Option.some.inj H
    go_enter Try.func26, Try.ntmps26
    go_wp2_with (first | ((with_reducible refine gate_dst (N := 6) rfl ?_); refine box_event ?hg (N := 6) ?hd (cs := #[.int .i64 a0_0, .int .i64 a0_1, .slice A0_2 l0_2.length c0_2]) (t := 24) ?hr ?_; (case hd => rfl); (case hg => rfl); (case hr => (go_simp; done)); intro gb678 hg w23 hbox hb; have n0_ := Aside0.mk (below_step HB.out hb); have n1_ := Aside0.mk (hbox); have n2_ := Aside0.mk ((by rw [hg]; exact (below_size HB.out) : w.heap.size ≤ gb678)); have n3_ := Aside0.mk ((by rw [hg]; exact (below_size HB.out) : w.heap.size ≤ gb678)); clear HB; have HB := n0_; have BK678 := n1_; have GW678 := n2_; have GE678 := n3_; clear n0_ n1_ n2_ n3_; clear hb hbox hg; have hcz24_0 : w23.cell? ⟨gb678, 0, none⟩ = some (.int .i64 a0_0) := (blk_cell BK678.out 0).trans rfl; have hcz24_1 : w23.cell? ⟨gb678, 1, none⟩ = some (.int .i64 a0_1) := (blk_cell BK678.out 1).trans rfl; have hcz24_2 : w23.cell? ⟨gb678, 2, none⟩ = some (.slice A0_2 l0_2.length c0_2) := (blk_cell BK678.out 2).trans rfl; have hfz24_0 := blk_frozen BK678.out 0; have hfz24_1 := blk_frozen BK678.out 1; have hfz24_2 := blk_frozen BK678.out 2) | ((with_reducible refine gate_callee (f := 36) rfl ?_); refine goesL_ (some 18) rfl rfl Try.func36 (by kernel_rfl) rfl #[.agg #[.int .i64 a0_0, .int .i64 a0_1, .slice A0_2 l0_2.length c0_2], .slice A1 l1.length c1, .int .i64 a2, .slice A4 l4.length c4, .slice A5 l5.length c5] rfl (by ((simp only [List.map_toArray, List.map_cons, List.map_nil])); (rfl)) ?_; (with_reducible refine (codewrightref38_Holds.calls k a0_0 a0_1 _ _ l0_2 _ _ l1 a2 _ _ l4 _ _ l5 true _ ?side1 ?side2 ?side3 ?side4 ?side5 ?side6 ?side7 ?side8 A7.out).mono ?_); (case side1 => repeat ((exact (Kd.C_below HR0_2.out HB.out)))); (case side2 => exact HC0_2.out); (case side3 => repeat ((exact (Kd.C_below HR1.out HB.out)))); (case side4 => exact HC1.out); (case side5 => repeat ((exact (Kd.C_below HR4.out HB.out)))); (case side6 => exact HC4.out); (case side7 => repeat ((exact (Kd.C_below HR5.out HB.out)))); (case side8 => exact HC5.out); rintro e w25 ⟨rfl, hb⟩; refine ⟨_, rfl, ?_⟩; have n0_ := Aside0.mk (blk_below (g := gb678) (o := .cells #[.int .i64 a0_0, .int .i64 a0_1, .slice A0_2 l0_2.length c0_2] 24 (0, 0)) BK678.out hb); have n1_ := Aside0.mk (below_step HB.out hb); clear BK678; clear HB; have BK678 := n0_; have HB := n1_; clear n0_ n1_; ((clear hb)); (skip); (skip); (skip); have hcz26_0 : w25.cell? ⟨gb678, 0, none⟩ = some (.int .i64 a0_0) := (blk_cell BK678.out 0).trans rfl; have hcz26_1 : w25.cell? ⟨gb678, 1, none⟩ = some (.int .i64 a0_1) := (blk_cell BK678.out 1).trans rfl; have hcz26_2 : w25.cell? ⟨gb678, 2, none⟩ = some (.slice A0_2 l0_2.length c0_2) := (blk_cell BK678.out 2).trans rfl; have hfz26_0 := blk_frozen BK678.out 0; have hfz26_1 := blk_frozen BK678.out 1; have hfz26_2 := blk_frozen BK678.out 2) | (go_at_call 20; (with_reducible refine (codewrightref05_Degree.calls k a0_0 a0_1 _ _ l0_2 _ _ l4 t680 _ ?side1 ?side2 ?side3 ?side4 A9.out).mono ?_); (case side1 => repeat ((exact (Kd.C_below HR0_2.out HB.out)))); (case side2 => exact HC0_2.out); (case side3 => repeat ((exact (Kd.C_below HR4.out HB.out)))); (case side4 => exact HC4.out); rintro e w27 ⟨rfl, hb⟩; have n0_ := Aside0.mk (blk_below (g := gb678) (o := .cells #[.int .i64 a0_0, .int .i64 a0_1, .slice A0_2 l0_2.length c0_2] 24 (0, 0)) BK678.out hb); have n1_ := Aside0.mk (below_step HB.out hb); clear BK678; clear HB; have BK678 := n0_; have HB := n1_; clear n0_ n1_; ((clear hb)); (skip); (skip); (skip); have hcz28_0 : w27.cell? ⟨gb678, 0, none⟩ = some (.int .i64 a0_0) := (blk_cell BK678.out 0).trans rfl; have hcz28_1 : w27.cell? ⟨gb678, 1, none⟩ = some (.int .i64 a0_1) := (blk_cell BK678.out 1).trans rfl; have hcz28_2 : w27.cell? ⟨gb678, 2, none⟩ = some (.slice A0_2 l0_2.length c0_2) := (blk_cell BK678.out 2).trans rfl; have hfz28_0 := blk_frozen BK678.out 0; have hfz28_1 := blk_frozen BK678.out 1; have hfz28_2 := blk_frozen BK678.out 2) | (go_at_call 20; (with_reducible refine (codewrightref05_Degree.calls k a0_0 a0_1 _ _ l0_2 _ _ l5 t681 _ ?side1 ?side2 ?side3 ?side4 A11.out).mono ?_); (case side1 => repeat ((exact (Kd.C_below HR0_2.out HB.out)))); (case side2 => exact HC0_2.out); (case side3 => repeat ((exact (Kd.C_below HR5.out HB.out)))); (case side4 => exact HC5.out); rintro e w29 ⟨rfl, hb⟩; have n0_ := Aside0.mk (blk_below (g := gb678) (o := .cells #[.int .i64 a0_0, .int .i64 a0_1, .slice A0_2 l0_2.length c0_2] 24 (0, 0)) BK678.out hb); have n1_ := Aside0.mk (below_step HB.out hb); clear BK678; clear HB; have BK678 := n0_; have HB := n1_; clear n0_ n1_; ((clear hb)); (skip); (skip); (skip)))
    go_ret
    exact ⟨by rfl, by exact HB.out⟩
  ·rw [if_neg c10] at H
   have c10b0 : decide ((wrap64 (2 * t680)) ≤ (wrap64 (a2 - a3))) = false := decide_eq_false c10
   clear c10
   obtain rfl := Option.some.inj H
   go_enter Try.func26, Try.ntmps26
   go_wp2_with (first | ((with_reducible refine gate_dst (N := 6) rfl ?_); refine box_event ?hg (N := 6) ?hd (cs := #[.int .i64 a0_0, .int .i64 a0_1, .slice A0_2 l0_2.length c0_2]) (t := 24) ?hr ?_; (case hd => rfl); (case hg => rfl); (case hr => (go_simp; done)); intro gb678 hg w30 hbox hb; have n0_ := Aside0.mk (below_step HB.out hb); have n1_ := Aside0.mk (hbox); have n2_ := Aside0.mk ((by rw [hg]; exact (below_size HB.out) : w.heap.size ≤ gb678)); have n3_ := Aside0.mk ((by rw [hg]; exact (below_size HB.out) : w.heap.size ≤ gb678)); clear HB; have HB := n0_; have BK678 := n1_; have GW678 := n2_; have GE678 := n3_; clear n0_ n1_ n2_ n3_; clear hb hbox hg; have hcz31_0 : w30.cell? ⟨gb678, 0, none⟩ = some (.int .i64 a0_0) := (blk_cell BK678.out 0).trans rfl; have hcz31_1 : w30.cell? ⟨gb678, 1, none⟩ = some (.int .i64 a0_1) := (blk_cell BK678.out 1).trans rfl; have hcz31_2 : w30.cell? ⟨gb678, 2, none⟩ = some (.slice A0_2 l0_2.length c0_2) := (blk_cell BK678.out 2).trans rfl; have hfz31_0 := blk_frozen BK678.out 0; have hfz31_1 := blk_frozen BK678.out 1; have hfz31_2 := blk_frozen BK678.out 2) | ((with_reducible refine gate_callee (f := 36) rfl ?_); refine goesL_ (some 18) rfl rfl Try.func36 (by kernel_rfl) rfl #[.agg #[.int .i64 a0_0, .int .i64 a0_1, .slice A0_2 l0_2.length c0_2], .slice A1 l1.length c1, .int .i64 a2, .slice A4 l4.length c4, .slice A5 l5.length c5] rfl (by ((simp only [List.map_toArray, List.map_cons, List.map_nil])); (rfl)) ?_; (with_reducible refine (codewrightref38_Holds.calls k a0_0 a0_1 _ _ l0_2 _ _ l1 a2 _ _ l4 _ _ l5 true _ ?side1 ?side2 ?side3 ?side4 ?side5 ?side6 ?side7 ?side8 A7.out).mono ?_); (case side1 => repeat ((exact (Kd.C_below HR0_2.out HB.out)))); (case side2 => exact HC0_2.out); (case side3 => repeat ((exact (Kd.C_below HR1.out HB.out)))); (case side4 => exact HC1.out); (case side5 => repeat ((exact (Kd.C_below HR4.out HB.out)))); (case side6 => exact HC4.out); (case side7 => repeat ((exact (Kd.C_below HR5.out HB.out)))); (case side8 => exact HC5.out); rintro e w32 ⟨rfl, hb⟩; refine ⟨_, rfl, ?_⟩; have n0_ := Aside0.mk (blk_below (g := gb678) (o := .cells #[.int .i64 a0_0, .int .i64 a0_1, .slice A0_2 l0_2.length c0_2] 24 (0, 0)) BK678.out hb); have n1_ := Aside0.mk (below_step HB.out hb); clear BK678; clear HB; have BK678 := n0_; have HB := n1_; clear n0_ n1_; ((clear hb)); (skip); (skip); (skip); have hcz33_0 : w32.cell? ⟨gb678, 0, none⟩ = some (.int .i64 a0_0) := (blk_cell BK678.out 0).trans rfl; have hcz33_1 : w32.cell? ⟨gb678, 1, none⟩ = some (.int .i64 a0_1) := (blk_cell BK678.out 1).trans rfl; have hcz33_2 : w32.cell? ⟨gb678, 2, none⟩ = some (.slice A0_2 l0_2.length c0_2) := (blk_cell BK678.out 2).trans rfl; have hfz33_0 := blk_frozen BK678.out 0; have hfz33_1 := blk_frozen BK678.out 1; have hfz33_2 := blk_frozen BK678.out 2) | (go_at_call 20; (with_reducible refine (codewrightref05_Degree.calls k a0_0 a0_1 _ _ l0_2 _ _ l4 t680 _ ?side1 ?side2 ?side3 ?side4 A9.out).mono ?_); (case side1 => repeat ((exact (Kd.C_below HR0_2.out HB.out)))); (case side2 => exact HC0_2.out); (case side3 => repeat ((exact (Kd.C_below HR4.out HB.out)))); (case side4 => exact HC4.out); rintro e w34 ⟨rfl, hb⟩; have n0_ := Aside0.mk (blk_below (g := gb678) (o := .cells #[.int .i64 a0_0, .int .i64 a0_1, .slice A0_2 l0_2.length c0_2] 24 (0, 0)) BK678.out hb); have n1_ := Aside0.mk (below_step HB.out hb); clear BK678; clear HB; have BK678 := n0_; have HB := n1_; clear n0_ n1_; ((clear hb)); (skip); (skip); (skip)))
   go_ret
   exact ⟨by rfl, by exact HB.out⟩
 ·replace c8 := Bool.eq_false_iff.mpr c8
  subst c8
  have H1 : (some false) = some r := by rw [if_neg (show ¬ (false = true) by decide)] at H; exact H
  clear H
  have H := H1
  clear H1
  obtain rfl := Option.some.inj H
  go_enter Try.func26, Try.ntmps26
  go_wp2_with (first | ((with_reducible refine gate_dst (N := 6) rfl ?_); refine box_event ?hg (N := 6) ?hd (cs := #[.int .i64 a0_0, .int .i64 a0_1, .slice A0_2 l0_2.length c0_2]) (t := 24) ?hr ?_; (case hd => rfl); (case hg => rfl); (case hr => (go_simp; done)); intro gb678 hg w35 hbox hb; have n0_ := Aside0.mk (below_step HB.out hb); have n1_ := Aside0.mk (hbox); have n2_ := Aside0.mk ((by rw [hg]; exact (below_size HB.out) : w.heap.size ≤ gb678)); have n3_ := Aside0.mk ((by rw [hg]; exact (below_size HB.out) : w.heap.size ≤ gb678)); clear HB; have HB := n0_; have BK678 := n1_; have GW678 := n2_; have GE678 := n3_; clear n0_ n1_ n2_ n3_; clear hb hbox hg; have hcz36_0 : w35.cell? ⟨gb678, 0, none⟩ = some (.int .i64 a0_0) := (blk_cell BK678.out 0).trans rfl; have hcz36_1 : w35.cell? ⟨gb678, 1, none⟩ = some (.int .i64 a0_1) := (blk_cell BK678.out 1).trans rfl; have hcz36_2 : w35.cell? ⟨gb678, 2, none⟩ = some (.slice A0_2 l0_2.length c0_2) := (blk_cell BK678.out 2).trans rfl; have hfz36_0 := blk_frozen BK678.out 0; have hfz36_1 := blk_frozen BK678.out 1; have hfz36_2 := blk_frozen BK678.out 2) | ((with_reducible refine gate_callee (f := 36) rfl ?_); refine goesL_ (some 18) rfl rfl Try.func36 (by kernel_rfl) rfl #[.agg #[.int .i64 a0_0, .int .i64 a0_1, .slice A0_2 l0_2.length c0_2], .slice A1 l1.length c1, .int .i64 a2, .slice A4 l4.length c4, .slice A5 l5.length c5] rfl (by ((simp only [List.map_toArray, List.map_cons, List.map_nil])); (rfl)) ?_; (with_reducible refine (codewrightref38_Holds.calls k a0_0 a0_1 _ _ l0_2 _ _ l1 a2 _ _ l4 _ _ l5 false _ ?side1 ?side2 ?side3 ?side4 ?side5 ?side6 ?side7 ?side8 A7.out).mono ?_); (case side1 => repeat ((exact (Kd.C_below HR0_2.out HB.out)))); (case side2 => exact HC0_2.out); (case side3 => repeat ((exact (Kd.C_below HR1.out HB.out)))); (case side4 => exact HC1.out); (case side5 => repeat ((exact (Kd.C_below HR4.out HB.out)))); (case side6 => exact HC4.out); (case side7 => repeat ((exact (Kd.C_below HR5.out HB.out)))); (case side8 => exact HC5.out); rintro e w37 ⟨rfl, hb⟩; refine ⟨_, rfl, ?_⟩; have n0_ := Aside0.mk (blk_below (g := gb678) (o := .cells #[.int .i64 a0_0, .int .i64 a0_1, .slice A0_2 l0_2.length c0_2] 24 (0, 0)) BK678.out hb); have n1_ := Aside0.mk (below_step HB.out hb); clear BK678; clear HB; have BK678 := n0_; have HB := n1_; clear n0_ n1_; ((clear hb)); (skip); (skip); (skip)))
  go_ret
  exact ⟨by rfl, by exact HB.out⟩
end Go.Proofs.Ytkdakjlopheefaa.PA
end
section
namespace Go.Proofs.Ytkdakjlopheefaa.PA
open Go.RowKit Go.Proofs.YtkdakjlopheefaaW.PrintWords Go.Proofs.YtkdakjlopheefaaW.PrintLast Go.Proofs.YtkdakjlopheefaaW.PrintMore
attribute [local go_sem] max2_int min2_int max_two min_two max_three min_three max_four min_four
set_option linter.unusedVariables false
set_option linter.unusedSimpArgs false
def codewrightref04_Neg.l0 : Nat → List Int → Int → Int → Int → List Int → Option (Int)
 | 0, _, _, _, _, _ => none
 | k + 1, x5, x6, x687000, x687001, x687002 => if x6 < (x5.length : Int) then (if 0 ≤ x6 then (if x687000 = 0 then (none) else (codewrightref04_Neg.l0 k (x5.set (x6 : Int).toNat (Int.tmod (wrap64 (x687000 - (rd x5 x6))) x687000)) (wrap64 (x6 + 1)) x687000 x687001 x687002)) else (none)) else ((codewrightref04_Value.f k x687000 x687001 x687002 x5).bind fun t692 => (some t692))
def codewrightref04_Neg.f (k : Nat) (a0_0 : Int) (a0_1 : Int) (l0_2 : List Int) (a1 : Int) : Option (Int) := (codewrightref04_Digits.f k a0_0 a0_1 l0_2 a1).bind fun t687 => (codewrightref04_Neg.l0 k t687 0 a0_0 a0_1 l0_2)
end Go.Proofs.Ytkdakjlopheefaa.PA
end
section
namespace Go.Proofs.Ytkdakjlopheefaa.PA
open Go.RowKit Go.Proofs.YtkdakjlopheefaaW.PrintWords Go.Proofs.YtkdakjlopheefaaW.PrintLast Go.Proofs.YtkdakjlopheefaaW.PrintMore
attribute [local go_sem] max2_int min2_int max_two min_two max_three min_three max_four min_four
set_option linter.unusedVariables false
set_option linter.unusedSimpArgs false
end Go.Proofs.Ytkdakjlopheefaa.PA
end
section
namespace Go.Proofs.Ytkdakjlopheefaa.PA
open Go.RowKit Go.Proofs.YtkdakjlopheefaaW.PrintWords Go.Proofs.YtkdakjlopheefaaW.PrintLast Go.Proofs.YtkdakjlopheefaaW.PrintMore
attribute [local go_sem] max2_int min2_int max_two min_two max_three min_three max_four min_four
set_option linter.unusedVariables false
set_option linter.unusedSimpArgs false
end Go.Proofs.Ytkdakjlopheefaa.PA
end
section
namespace Go.Proofs.Ytkdakjlopheefaa.PA
open Go.RowKit Go.Proofs.YtkdakjlopheefaaW.PrintWords Go.Proofs.YtkdakjlopheefaaW.PrintLast Go.Proofs.YtkdakjlopheefaaW.PrintMore
attribute [local go_sem] max2_int min2_int max_two min_two max_three min_three max_four min_four
set_option linter.unusedVariables false
set_option linter.unusedSimpArgs false
end Go.Proofs.Ytkdakjlopheefaa.PA
end
section
namespace Go.Proofs.Ytkdakjlopheefaa.PA
open Go.RowKit Go.Proofs.YtkdakjlopheefaaW.PrintWords Go.Proofs.YtkdakjlopheefaaW.PrintLast Go.Proofs.YtkdakjlopheefaaW.PrintMore
attribute [local go_sem] max2_int min2_int max_two min_two max_three min_three max_four min_four
set_option linter.unusedVariables false
set_option linter.unusedSimpArgs false
end Go.Proofs.Ytkdakjlopheefaa.PA
end
section
namespace Go.Proofs.Ytkdakjlopheefaa.PA
open Go.RowKit Go.Proofs.YtkdakjlopheefaaW.PrintWords Go.Proofs.YtkdakjlopheefaaW.PrintLast Go.Proofs.YtkdakjlopheefaaW.PrintMore
attribute [local go_sem] max2_int min2_int max_two min_two max_three min_three max_four min_four
set_option linter.unusedVariables false
set_option linter.unusedSimpArgs false
end Go.Proofs.Ytkdakjlopheefaa.PA
end
section
namespace Go.Proofs.Ytkdakjlopheefaa.PA
open Go.RowKit Go.Proofs.YtkdakjlopheefaaW.PrintWords Go.Proofs.YtkdakjlopheefaaW.PrintLast Go.Proofs.YtkdakjlopheefaaW.PrintMore
attribute [local go_sem] max2_int min2_int max_two min_two max_three min_three max_four min_four
set_option linter.unusedVariables false
set_option linter.unusedSimpArgs false
end Go.Proofs.Ytkdakjlopheefaa.PA
end
section
namespace Go.Proofs.Ytkdakjlopheefaa.PA
open Go.RowKit Go.Proofs.YtkdakjlopheefaaW.PrintWords Go.Proofs.YtkdakjlopheefaaW.PrintLast Go.Proofs.YtkdakjlopheefaaW.PrintMore
attribute [local go_sem] max2_int min2_int max_two min_two max_three min_three max_four min_four
set_option linter.unusedVariables false
set_option linter.unusedSimpArgs false
end Go.Proofs.Ytkdakjlopheefaa.PA
end
section
namespace Go.Proofs.Ytkdakjlopheefaa.PA
open Go.RowKit Go.Proofs.YtkdakjlopheefaaW.PrintWords Go.Proofs.YtkdakjlopheefaaW.PrintLast Go.Proofs.YtkdakjlopheefaaW.PrintMore
theorem Ev.succ {α : Type} {g : Nat → Option α} {r : α} (h : Ev (fun k => g (k + 1)) r) : Ev g r := Ev.step (fun _ => rfl) h
theorem Ev.ifp {α : Type} {c : Prop} [Decidable c] {f g : Nat → Option α} {r : α} (h : c) (e : Ev f r) : Ev (fun k => if c then f k else g k) r := by simp only [if_pos h]; exact e
theorem Ev.ifn {α : Type} {c : Prop} [Decidable c] {f g : Nat → Option α} {r : α} (h : ¬ c) (e : Ev g r) : Ev (fun k => if c then f k else g k) r := by simp only [if_neg h]; exact e
theorem Ev.val {α : Type} {a r : α} (h : a = r) : Ev (fun _ => some a) r := h ▸ Ev.now a
theorem Ev.some_bind {α β : Type} {a : α} {f : Nat → α → Option β} {r : β} (h : Ev (fun k => f k a) r) : Ev (fun k => (some a).bind (f k)) r := h
theorem Ev.opt_bind {α β : Type} {o : Option α} {a : α} {f : Nat → α → Option β} {r : β} (h0 : o = some a) (h : Ev (fun k => f k a) r) : Ev (fun k => o.bind (f k)) r := by subst h0; exact h
theorem w64 {n : Int} (h : -4000000000000000000 ≤ n ∧ n ≤ 4000000000000000000) : wrap64 n = n := by unfold wrap64; omega
theorem rd_nat (xs : List Int) (j : Nat) : rd xs (j : Int) = xs.getD j 0 := by unfold rd; rw [Int.toNat_natCast]
theorem rd_set (xs : List Int) (i j : Nat) (v : Int) (h : i < xs.length) : (xs.set i v).getD j 0 = if i = j then v else xs.getD j 0 := by
  rw [List.getD_eq_getElem?_getD, List.getElem?_set]
  split
  · rename_i e; subst e; simp [h]
  · rw [List.getD_eq_getElem?_getD]
theorem tdiv_pos {a b : Int} (h : 0 ≤ a) : Int.tdiv a b = a / b := Int.tdiv_eq_ediv_of_nonneg h
theorem tmod_pos {a b : Int} (h : 0 ≤ a) : Int.tmod a b = a % b := Int.tmod_eq_emod_of_nonneg h
theorem getD_nat_lt (xs : List Int) (j : Nat) (h : xs.length ≤ j) : xs.getD j 0 = 0 := by
  rw [List.getD_eq_getElem?_getD, List.getElem?_eq_none h]; rfl
theorem getD_zeros (n j : Nat) : (List.replicate n (0 : Int)).getD j 0 = 0 := by
  rw [List.getD_eq_getElem?_getD, List.getElem?_replicate]; split <;> rfl
end Go.Proofs.Ytkdakjlopheefaa.PA
end
